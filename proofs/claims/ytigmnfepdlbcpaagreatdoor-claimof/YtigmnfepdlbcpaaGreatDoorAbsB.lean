import Derived.Test.YtigmnfepdlbcpaaGreatDoorAbsA
set_option linter.all false
namespace Go.Abs
open Go
variable{g k o p:Oper}{l:List Oper}{a s:St}{i off t u:Nat}{v w x y:Bool}{P:Program}{c:Ctx}{d:Option Nat}{U e ty:TypeId}{args cs ps qs:List PV}{f:Operand}{A:Tr}{R:aD×PV->Prop}{K:St->Prop}{Q:Exit->St->Prop}{ρ:Operand->Value}{op:BinOp}{b q:PV}{st:aD}{w':World}{j:List Nat}{caps:Array Value}
section
def xA(o:Oper):Bool:=match o.op with| .load .. =>true|_=>false
def lJ(o:Oper):Bool:=match o.op with| .store .. =>true|_=>false
def afI(o:Oper)(x:Nat):Bool:=match o.dst with|some d=>Nat.beq d x|none=>false
def amN(o:Oper):Bool:=match o.op with| .alloc _| .box _ _=>true|_=>false
def aaL(l:List Oper)(x:Nat):Bool:=l.all λo=> !afI o x
def fX(l:List Oper)(y:Nat):Bool:=l.any (λo=>afI o y)&&l.all λo=> !afI o y||amN o
def aAT(l:List Oper)(x:Nat):Bool:=l.any (λo=>afI o x)&&l.all λo=> !afI o x||match o.op with
 | .fieldAddr _ (.tmp y) _=>aaL l y
 | .indexAddr _ (.tmp y) _=>aaL l y
 |_=>false
def sB(o:Oper):Option Nat:=match o.op with| .load _ (.tmp x)=>some x| .store _ (.tmp x) _=>some x|_=>none
def vE(l:List Oper)(x y:Oper):Bool:=match sB x,sB y with
 |some a,some b=>(fX l a&&aaL l b)||(aaL l a&&fX l b)||(fX l a&&fX l b&& !Nat.beq a b)||(fX l a&&aAT l b)||(aAT l a&&fX l b)
 |_,_=>false
def aiE(l:List Oper)(x y:Oper):Bool:=((lJ x&&(xA y||lJ y))||(xA x&&lJ y))&& !vE l x y
theorem kI{x:Nat}:afI o x=true↔o.dst=some x:=by
 unfold afI;cases o.dst with
 |none=>simp
 |some d=>simp
structure LOK (l:List Oper) (s:St):Prop where
 out:∀x w t off,aaL l x=true->s.env x=(w, .adr t off)->fX l t=false
 fr:∀y w t off,fX l y=true->s.env y=(w, .adr t off)->t=y
 der:∀x w t off,aAT l x=true->s.env x=(w, .adr t off)->fX l t=false
theorem LOK.apart(h:LOK l s)(ha:vE l g k=true){a b j:Nat}(m:sB g=some a)(n:sB k=some b)(c:s.env a=(w, .adr t i))(f:s.env b=(v, .adr u j)):t≠u:=by
 intro e;subst e;unfold vE at ha;rw[m,n]at ha;simp at ha;rcases ha with(((⟨k1,k2⟩|⟨k1,k2⟩)|⟨⟨k1,k2⟩,o⟩)|⟨k1,k2⟩)|⟨k1,k2⟩
 ·have:=h.fr a _ _ _ k1 c;have:=h.out b _ _ _ k2 f;grind
 ·have:=h.fr b _ _ _ k2 f;have:=h.out a _ _ _ k1 c;grind
 ·have p:=h.fr a _ _ _ k1 c;have q:=h.fr b _ _ _ k2 f;simp_all
 ·have:=h.fr a _ _ _ k1 c;subst this;have:=h.der b _ _ _ k2 f;grind
 ·have:=h.fr b _ _ _ k2 f;have:=h.der a _ _ _ k1 c;grind
def aFo :Bool×E->Bool
 |(_, .adr _ _)=>false
 |_=>true
def akQ(l:List Oper)(s:St):Bool:=l.all λo=>match amN o,o.dst with
 |true,some d=> !s.ad d&&aFo (s.env d)
 |_,_=>true
theorem amU{x:Nat}(h:sB o=some x):(.tmp x:Operand)∈o.op.operands:=by
 unfold sB at h;split at h
 ·rename_i e;injection h with h;subst h;rw[e];simp[Op.operands]
 ·rename_i e;injection h with h;subst h;rw[e];simp[Op.operands]
 ·cases h
structure AdOK (s:St):Prop where
 ad:∀t w u off,s.env t=(w, .adr u off)->s.ad u=true
 adL:∀t,s.L t≠none->s.ad t=true
theorem SI.adOK{a:Act}{w:World}{g:G}{lam:Nat->Nat}(hs:SI P c s a w g lam):AdOK s:=⟨hs.ad,hs.adL⟩
section
variable{P:Program}{l:List Oper}
theorem aBk{x:Operand}(h:∀t,x= .tmp t->a.env t=s.env t):opd a x=opd s x/\(eQ a x↔eQ s x):=by
 cases x with
 |tmp t=>have:=h t rfl;simp[opd,eQ,this]
 |_=>trivial
theorem qG(h:(.tmp t:Operand)∈o.op.operands):t∈o.looksAt l.toArray:=by
 exact List.mem_append_left _ (List.mem_filterMap.2 ⟨.tmp t,by grind,rfl⟩)
theorem nP(h:∀t∈o.looksAt l.toArray,a.env t=s.env t):bG l o a=bG l o s:=by
 unfold bG;cases hg:o.guard with
 |none=>rfl
 |some jb=>
  have⟨j,b⟩:=jb;simp;cases ht:(l[j]?).bind _ with
  |none=>rfl
  |some t=>
   have:t∈o.looksAt l.toArray:=by
    unfold Oper.looksAt
    grind
   grind
theorem AStep.stable {o:Oper} {s s':St} {rd:Bool} {T:Tr} (h:AStep P l o s rd T) (henv:∀t∈o.looksAt l.toArray,s'.env t=s.env t) (hst:rd=true->s'.st=s.st) (hn:s'.n=s.n)
  (hL:(xA o||lJ o)=true->∀x t w off,sB o=some x->s.env x=(w, .adr t off)->s'.L t=s.L t) (had:∀d,o.dst=some d->s.ad d=false->s'.ad d=false):AStep P l o s' rd T:=by
 have hop:∀x∈o.op.operands,opd s' x=opd s x/\(eQ s' x↔eQ s x):=λx hx=>aBk λt ht=>henv t (qG (ht▸hx))
 have hen:∀t,(.tmp t:Operand)∈o.op.operands->s'.env t=s.env t:=λt ht=>henv t (qG ht)
 have hd':iA o s'=iA o s:=by unfold iA;rw [hn]
 cases h with
 |val _ w p hw hd hf hv=>
  refine .val rd w p (by rw [nP henv];exact hw) (by rw [hd'];exact hd) (λhw' x hx=>(hop x hx).2.2 (hf hw' x hx)) λhw'=> ?_
  cases rd with
  |true=>
   intro w0 g ρ hm hρ
   rw [hst rfl] at hm⊢
   exact hv hw' w0 g ρ hm λx hx=>λp hp=>hρ x hx p (by rw [(hop x hx).1];exact hp)
  |false=>
   intro st' w0 g ρ hm hρ
   exact hv hw' st' w0 g ρ hm λx hx=>λp hp=>hρ x hx p (by have:=(hop x hx).1;cases x<;>first|exact this.trans hp|exact hp)
 |pick w t a b wt x p hw hd ho ht hwt ha hb=>
  have m1:(.tmp t:Operand)∈o.op.operands:=by rw [ho];simp [Op.operands]
  have m2:a∈o.op.operands:=by rw [ho];simp [Op.operands]
  have m3:b∈o.op.operands:=by rw [ho];simp [Op.operands]
  exact .pick w t a b wt x p (by rw [nP henv];exact hw) (by rw [hd'];exact hd) ho (by rw [hen t m1];exact ht) hwt
   (λh1 h2=>⟨(hop a m2).2.2 (ha h1 h2).1,by rw [(hop a m2).1];exact (ha h1 h2).2⟩) (λh1 h2=>⟨(hop b m3).2.2 (hb h1 h2).1,by rw [(hop b m3).1];exact (hb h1 h2).2⟩)
 |adr w wx t off hw hd ho hf=>
  refine .adr w wx t off (by rw [nP henv];exact hw) (by rw [hd'];exact hd) ?_ hf
  rw [<-ho]
  cases hop':o.op<;>simp only [wT]
  rename_i U x f
  cases x with
  |tmp x=>simp only [hen x (by rw [hop'];simp [Op.operands])]
  |_=>rfl
 |adrI w wx t off U x y k i n e sz j hw hd ho hx hy hf hu hs hj=>
  have m1:(.tmp x:Operand)∈o.op.operands:=by rw [ho];simp [Op.operands]
  have m2:y∈o.op.operands:=by rw [ho];simp [Op.operands]
  exact .adrI w wx t off U x y k i n e sz j (by rw [nP henv];exact hw) (by rw [hd'];exact hd) ho (by rw [hen x m1];exact hx) (by rw [(hop y m2).1];exact hy) (λh=>⟨(hf h).1,(hop y m2).2.2 (hf h).2⟩) hu hs hj
 |load1 w wx U x t off T' cs p hw hd ho hx hf hL' hT hu hc=>
  have m1:(.tmp x:Operand)∈o.op.operands:=by rw [ho];simp [Op.operands]
  exact .load1 w wx U x t off T' cs p (by rw [nP henv];exact hw) (by rw [hd'];exact hd) ho (by rw [hen x m1];exact hx) hf (by rw [hL (by simp [xA,ho]) x t wx off (by simp [sB,ho]) hx];exact hL') hT hu hc
 |loadA w wx U x t off T' cs k hw hd ho hx hf hL' hT hk hc=>
  have m1:(.tmp x:Operand)∈o.op.operands:=by rw [ho];simp [Op.operands]
  exact .loadA w wx U x t off T' cs k (by rw [nP henv];exact hw) (by rw [hd'];exact hd) ho (by rw [hen x m1];exact hx) hf (by rw [hL (by simp [xA,ho]) x t wx off (by simp [sB,ho]) hx];exact hL') hT hk hc
 |alloc d U z hg hd hn' had' ho hz=>exact .alloc d U z hg hd (by rw [hn];exact hn') (had d hd had') ho hz
 |box d U x p hg hd hn' had' ho hf hx hp=>
  have m1:x∈o.op.operands:=by rw [ho];simp [Op.operands]
  exact .box d U x p hg hd (by rw [hn];exact hn') (had d hd had') ho ((hop x m1).2.2 hf) (by rw [(hop x m1).1];exact hx) hp
 |store U x y t off T' cs p hg hd ho hx hL' hf hy hp hk hc=>
  have m1:(.tmp x:Operand)∈o.op.operands:=by rw [ho];simp [Op.operands]
  have m2:y∈o.op.operands:=by rw [ho];simp [Op.operands]
  exact .store U x y t off T' cs p hg hd ho (by rw [hen x m1];exact hx) (by rw [hL (by simp [lJ,ho]) x t true off (by simp [sB,ho]) hx];exact hL') ((hop y m2).2.2 hf) (by rw [(hop y m2).1];exact hy) hp hk hc
theorem AStep.kind{rd:Bool}{T:Tr}(h:AStep P l o s rd T)(b:AdOK s):
  (∃w e,T= .put o.dst w e/\∀u off,e= .adr u off->s.ad u=true)\/(∃d U cs,o.dst=some d/\T= .box d U cs/\s.ad d=false)\/
   (∃t U cs,lJ o=true/\o.dst=none/\T= .sto t U cs/\s.L t≠none/\∃x w off,sB o=some x/\s.env x=(w, .adr t off)):=by
 cases h with
 |val _ w p _ _ _ _=>grind
 |pick w _ _ _ _ _ p _ _ _ _ _ _ _=>grind
 |adr w wx t off hw hd ho hf=>
  refine .inl ⟨w,_,rfl,λu a e=>?_⟩;cases e
  unfold wT at ho;split at ho
  ·split at ho
   ·rename_i hx
    split at ho
    ·split at ho
     ·split at ho
      ·cases ho
      ·injection ho with ho
       injection ho with h1 h2
       injection h2 with h2 h3
       subst h2;exact b.ad _ _ _ _ hx
     ·cases ho
    ·cases ho
   ·cases ho
  ·cases ho
 |adrI w wx t off U x y k i n e sz j hw hd ho hx hy hf hu hs hj=>exact .inl ⟨w,_,rfl,λu a e=>by cases e;exact b.ad _ _ _ _ hx⟩
 |load1 w _ _ _ _ _ _ _ p _ _ _ _ _ _ _ _ _=>exact .inl ⟨w,_,rfl,λ_ _ e=>by cases e⟩
 |loadA w _ _ _ _ _ _ _ k _ _ _ _ _ _ _ _ _=>exact .inl ⟨w,_,rfl,λ_ _ e=>by cases e⟩
 |alloc d U z hg hd hn had ho hz=>exact .inr (.inl ⟨d,U,_,hd,rfl,had⟩)
 |box d U x p hg hd hn had ho hf hx hp=>exact .inr (.inl ⟨d,U,_,hd,rfl,had⟩)
 |store U x y t off T' cs p hg hd ho hx hL hf hy hp hk hc=>exact .inr (.inr ⟨t,T',_,by simp[lJ,ho],hd,rfl,by rw[hL];simp,x,true,off,by simp[sB,ho],hx⟩)
theorem AdOK.put(b:AdOK s){e:E}(h:∀u off,e= .adr u off->s.ad u=true):AdOK (s.put d w e):=by
 cases d with
 |none=>exact b
 |some d=>
  refine⟨λt w' u off c=>?_,b.adL⟩;have a:upd s.env d _ t=(w', .adr u _):=c;by_cases ht:t=d
  ·subst ht;rw[aA]at a;exact h u off (by grind)
  ·rw[aB ht]at a;exact b.ad t _ u _ a
theorem AdOK.var(b:AdOK s){d:Nat}:AdOK (s.var d U cs):=by
 refine⟨λt w u off e=>?_,λt e=>?_⟩
 ·have a:upd s.env d _ t=(w, .adr u _):=e
  show upd _ d _ u=true;by_cases hu:u=d
  ·rw[hu,aA]
  ·rw[aB hu]
   by_cases ht:t=d
   ·subst ht;rw[aA]at a;grind
   ·rw[aB ht]at a;exact b.ad t w u _ a
 ·have a:upd s.L d _ t≠none:=e
  show upd _ d _ t=true;by_cases ht:t=d
  ·rw[ht,aA]
  ·rw[aB ht]at a⊢;exact b.adL t a
theorem AStep.adOK{rd:Bool}{T:Tr}(h:AStep P l o s rd T)(a:AdOK s):AdOK (T.app s):=by
 rcases h.kind a with⟨w,e,rfl,c⟩|⟨d,U,cs,_,rfl,_⟩|⟨t,U,cs,_,_,rfl,hL,_⟩
 ·exact a.put c
 ·exact a.var
 ·refine⟨a.ad,λu e=>?_⟩
  have b:upd _ t _ u≠none:=e;by_cases hu:u=t
  ·rw[hu];exact a.adL t hL
  ·rw[aB hu]at b;exact a.adL u b
theorem Tr.app_env{rd:Bool}{T:Tr}(h:AStep P l o a rd T)(b:AdOK a)(ht:o.dst≠some t):(T.app s).env t=s.env t:=by
 rcases h.kind b with⟨w,e,rfl,_⟩|⟨d,U,cs,hd,rfl,_⟩|⟨c,U,cs,_,_,rfl,_,_⟩
 ·cases hd:o.dst with
  |none=>rfl
  |some d=>exact aB λh=>ht (by grind)
 ·exact aB λh=>ht (by grind)
 ·rfl
theorem Tr.app_st(T:Tr)(s:St):(T.app s).st=s.st/\(T.app s).n=s.n:=by
 cases T with
 |put d w e=>cases d<;>exact⟨rfl,rfl⟩
 |_=>trivial
theorem aBI{d:Nat}(ho:o∈l)(hd:o.dst=some d)(h:aAT l d=true):∃y,((∃T f,o.op= .fieldAddr T (.tmp y) f)\/∃T i,o.op= .indexAddr T (.tmp y) i)/\aaL l y=true:=by
 simp only[aAT,zba]at h;have:=zal.1 h.2 o ho;rw[kI.2 hd]at this
 grind
theorem aAh{d:Nat}(ho:o∈l)(hd:o.dst=some d)(h:aAT l d=true):fX l d=false:=by
 have⟨y,e,_⟩:=aBI ho hd h;cases hf:fX l d with
 |false=>rfl
 |true=>
  simp only[fX,zba]at hf;have:=zal.1 hf.2 o ho;rw[kI.2 hd]at this;rcases e with⟨T,f,e⟩|⟨T,f,e⟩<;>simp[amN,e]at this
theorem LOK.put(h:LOK l s)(ho:o∈l){e:E}(hn:∀u off,e= .adr u off->amN o=false)(g:∀d u off,o.dst=some d->e= .adr u off->aAT l d=true->fX l u=false):LOK l (s.put o.dst w e):=by
 cases hd:o.dst with
 |none=>exact h
 |some d=>
  refine⟨λx w' t off hx c=>?_,λy w' t off hy c=>?_,λy w' t off hy c=>?_⟩
  ·have f:x≠d:=λe=>by
    subst e;have:=zal.1 hx o ho;rw[kI.2 hd]at this;cases this
   have a:upd s.env d (w,e) x=(w', .adr t off):=c;rw[aB f]at a;exact h.out x _ _ _ hx a
  ·have a:upd s.env d _ y=(w', .adr t off):=c
   by_cases b:y=d
   ·subst b
    rw[aA]at a;injection a with _ a
    have i:=hn _ _ a;simp only[fX,zba]at hy;have:=zal.1 hy.2 o ho;rw[kI.2 hd,i]at this;cases this
   ·rw[aB b]at a
    exact h.fr y _ _ _ hy a
  ·have a:upd s.env d _ y=(w', .adr t off):=c
   by_cases b:y=d
   ·subst b
    rw[aA]at a
    grind
   ·rw[aB b]at a
    exact h.der y _ _ _ hy a
theorem LOK.var(h:LOK l s)(ho:o∈l){d:Nat}(hd:o.dst=some d):LOK l (s.var d U cs):=by
 refine⟨λx w' t off hx c=>?_,λy w' t off hy c=>?_,λy w' t off hy c=>?_⟩
 ·have f:x≠d:=λe=>by
   subst e;have:=zal.1 hx o ho;rw[kI.2 hd]at this;cases this
  have a:upd s.env d _ x=(w', .adr t off):=c;rw[aB f]at a;exact h.out x _ _ _ hx a
 ·have a:upd s.env d _ y=(w', .adr t off):=c
  by_cases b:y=d
  ·subst b
   rw[aA]at a
   grind
  ·rw[aB b]at a
   exact h.fr y _ _ _ hy a
 ·have a:upd s.env d _ y=(w', .adr t off):=c
  by_cases b:y=d
  ·subst b
   rw[aA]at a;injection a with _ a
   injection a with a _
   rw[<-a];exact aAh ho hd hy
  ·rw[aB b]at a
   exact h.der y _ _ _ hy a
theorem AStep.notNew{rd:Bool}(h:AStep P l o s rd (.put d w (.adr u off))):amN o=false:=by
 unfold amN;cases h with
 |adr w wx t off hw hd ho hf=>
  cases a:o.op<;>rw[a]at ho<;>(cases ho)
 |adrI w wx t off U x y k i n e sz j hw hd ho hx hy hf hu hs hj=>rw[ho]
theorem AStep.derOut{rd:Bool}(h:AStep P l o s rd (.put d w (.adr u off))){T:TypeId}{y f:Nat}(b:o.op= .fieldAddr T (.tmp y) f):∃w' a,s.env y=(w', .adr u a):=by
 cases h with
 |adr w wx t off hw hd ho hf=>
  simp only[wT]at ho
  grind
 |adrI w wx t off U x y k i n e sz j hw hd ho hx hy hf hu hs hj=>grind
theorem AStep.derOutI{rd:Bool}(h:AStep P l o s rd (.put d w (.adr u off))){T:TypeId}{y:Nat}(b:o.op= .indexAddr T (.tmp y) f):∃w' a,s.env y=(w', .adr u a):=by
 cases h with
 |adr w wx t off hw hd ho hf=>rw[b]at ho;trivial
 |adrI w wx t off U x y' k i n e sz j hw hd ho hx hy hf hu hs hj=>
  grind
theorem LOK.step{o:Oper}{s:St}{rd:Bool}{T:Tr}(hL:LOK l s)(ho:o∈l)(h:AStep P l o s rd T)(k:AdOK s):LOK l (T.app s):=by
 rcases h.kind k with⟨w,e,rfl,_⟩|⟨d,U,cs,hd,rfl,_⟩|⟨t,U,cs,_,_,rfl,_,_⟩
 ·refine hL.put ho (λu off c=>by subst c;exact h.notNew) λd u off hd c a=>?_
  subst c;obtain⟨y,⟨T,f,g⟩|⟨T,f,g⟩,j⟩:=aBI ho hd a
  ·have⟨w',b,i⟩:=h.derOut g
   exact hL.out y _ _ _ j i
  ·have⟨w',b,i⟩:=h.derOutI g
   exact hL.out y _ _ _ j i
 ·exact hL.var ho hd
 ·exact⟨hL.out,hL.fr,hL.der⟩
theorem aNu{c:Oper}{S T:Bool}{z:Tr}(Q:p.apart l.toArray c=true)(E:aiE l p c=false)(o:AdOK s)(C:LOK l s)(hi:AStep P l p s S A)(hj:AStep P l c (A.app s) T z):
  AStep P l c s T z/\AStep P l p (z.app s) S A/\z.app (A.app s)=A.app (z.app s):=by
 have⟨Y,J,h3⟩:=Oper.apart_spec Q
 have W:∀t,p.dst≠some t->(A.app s).env t=s.env t:=λt ht=>Tr.app_env hi o ht
 have R:((lJ p&&(xA c||lJ c))||(xA p&&lJ c))=true->vE l p c=true:=λe=>by
  unfold aiE at E
  rw[e]at E
  simpa using E
 have G:AStep P l c s T z:=by
  refine hj.stable (λt ht=>(W t λh=>Y t h ht).symm) (λ_=>(A.app_st s).1.symm) (A.app_st s).2.symm (λhk x t w off hx H=>?_) λd hd had=>?_
  ·rw[W x λh=>Y x h (qG (amU hx))]at H
   have u:=o.ad x w t off H;rcases hi.kind o with⟨w',e,rfl,_⟩|⟨d,U,cs,hd,rfl,had⟩|⟨y,U,cs,k,_,rfl,_,O,N,M,m,j⟩
   ·cases p.dst<;>rfl
   ·show s.L t=upd s.L d _ t
    rw[aB];intro h;rw[h,had]at u;cases u
   ·show s.L t=upd s.L y _ t
    rw[aB];intro e;have hx2:(Operand.tmp x)∈c.op.operands:=amU hx;exact C.apart (R (by rw[k];rw[Bool.or_eq_true]at hk;rcases hk with hk|hk<;>simp[hk])) m hx j H e.symm
  ·rcases hi.kind o with⟨w',e,rfl,_⟩|⟨n,U,cs,f,rfl,b⟩|⟨y,U,cs,k,_,rfl,_,O,N,M,m,j⟩
   ·cases g:p.dst<;>rw[g]at had<;>exact had
   ·have:upd s.ad n true d=false:=had
    by_cases h:d=n
    ·rw[h,aA]at this;cases this
    ·rwa[aB h]at this
   ·exact had
 have p2:AStep P l p (z.app s) S A:=by
  have ej:∀t,c.dst≠some t->(z.app s).env t=s.env t:=λt ht=>Tr.app_env G o ht;refine hi.stable (λt ht=>ej t λh=>h3 t h ht) (λ_=>(z.app_st s).1) (z.app_st s).2 (λhk x t w off hx H=>?_) λd hd had=>?_
  ·have u:=o.ad x w t off H
   rcases G.kind o with⟨w',e,rfl,_⟩|⟨d,U,cs,hd,rfl,had⟩|⟨y,U,cs,k,_,rfl,_,O,N,M,m,j⟩
   ·cases c.dst<;>rfl
   ·show upd s.L d _ t=s.L t
    rw[aB];intro h;rw[h,had]at u;cases u
   ·show upd s.L y _ t=s.L t
    rw[aB];intro e;rw[Bool.or_eq_true]at hk;exact C.apart (R (by rw[k];rcases hk with hk|hk<;>simp[hk])) hx m H j e
  ·rcases G.kind o with⟨w',e,rfl,_⟩|⟨n,U,cs,f,rfl,b⟩|⟨y,U,cs,k,_,rfl,_,O,N,M,m,j⟩
   ·cases i:c.dst<;>exact had
   ·show upd s.ad n true d=false
    rw[aB]
    ·exact had
    ·intro h;subst h;exact J d hd f
   ·exact had
 refine⟨G,p2,?_⟩
 rcases hi.kind o with⟨w,e,rfl,_⟩|⟨d,U,cs,hd,rfl,had⟩|⟨t,U,cs,k,g,rfl,hL,O,N,M,m,j⟩
 ·rcases G.kind o with⟨w',V,rfl,_⟩|⟨n,I,q,f,rfl,b⟩|⟨y,I,q,v,i,rfl,B,xj,Z,X,F,D⟩
  ·cases g:p.dst with
   |none=>rfl
   |some d=>
    cases i:c.dst with
    |none=>rfl
    |some n=>
     have a:d≠n:=λh=>J d g (by rw[i,h]);simp only[Tr.app,St.put];rw[fE a]
  ·cases g:p.dst with
   |none=>rfl
   |some d=>
    have a:d≠n:=λh=>J d g (by rw[f,h]);simp only[Tr.app,St.put,St.var];rw[fE a]
  ·cases g:p.dst<;>rfl
 ·rcases G.kind o with⟨w',V,rfl,_⟩|⟨n,I,q,f,rfl,b⟩|⟨y,I,q,v,i,rfl,B,xj,Z,X,F,D⟩
  ·cases i:c.dst with
   |none=>rfl
   |some n=>
    have a:d≠n:=λh=>J d hd (by rw[i,h]);simp only[Tr.app,St.put,St.var];rw[fE a]
  ·have a:d≠n:=λh=>J d hd (by rw[f,h])
   simp only[Tr.app,St.var];rw[fE a,fE a,fE a]
  ·have a:d≠y:=λh=>by have:=o.adL y B;rw[<-h,had]at this;cases this
   simp only[Tr.app,St.var];rw[fE a]
 ·rcases G.kind o with⟨w',V,rfl,_⟩|⟨n,I,q,f,rfl,b⟩|⟨y,I,q,v,i,rfl,B,xj,Z,X,F,D⟩
  ·cases c.dst<;>rfl
  ·have a:t≠n:=λh=>by have:=o.adL t hL;rw[h,b]at this;cases this
   simp only[Tr.app,St.var];rw[fE a]
  ·have a:t≠y:=C.apart (R (by rw[k,v];simp)) m F j D
   simp only[Tr.app];rw[fE a]
def WpA(P:Program)(l:List Oper)(o:Oper)(s:St)(K:St->Prop):Prop:=
 ∀c a w g lam,SI P c s a w g lam->∀(e:Act->World->Prop)(Q:Exit->Act->World->Prop),(∀h f w' g' b,K h->SI P c h f w' g' b->e f w')->yV P c.ro l o a w e Q
def St.turn(s:St)(o:Oper)(x:aD×PV):St:=(s.sst x.1).put o.dst true (.pv x.2)
def ZOp (P:Program) (l:List Oper) (o:Oper) (s:St) (R:aD×PV->Prop):Prop:=
 ∀s',(∀t∈o.looksAt l.toArray,s'.env t=s.env t)->s'.st=s.st->s'.n=s.n->WpA P l o s' λs''=>∃x,R x/\s''=s'.turn o x
inductive Md where
 |seq
 |draw (z r:List Nat)
def Md.z :Md->List Nat
 | .seq=>[]
 | .draw z _=>z
def Md.r :Md->List Nat
 | .seq=>[]
 | .draw _ r=>r
def mD(k:Nat):List Nat->Bool
 |[]=>false
 |x::xs=>Nat.beq k x||mD k xs
theorem St.turn_env{x:aD×PV}(h:o.dst≠some t):(s.turn o x).env t=s.env t:=by
 unfold St.turn St.put;cases hd:o.dst with
 |none=>rfl
 |some d=>exact aB λe=>h (by grind)
theorem St.turn_rest{x:aD×PV}:(s.turn o x).L=s.L/\(s.turn o x).ad=s.ad/\(s.turn o x).n=s.n/\(s.turn o x).st=x.1:=by
 unfold St.turn St.put;cases o.dst<;>exact⟨rfl,rfl,rfl,rfl⟩
theorem AdOK.turn(a:AdOK s){x:aD×PV}:AdOK (s.turn o x):=
 AdOK.put (s:=s.sst x.1) ⟨a.ad,a.adL⟩ λ_ _ e=>by grind
theorem LOK.turn(h:LOK l s)(ho:o∈l){x:aD×PV}:LOK l (s.turn o x):=
 LOK.put (s:=s.sst x.1) ⟨h.out,h.fr,h.der⟩ ho (λ_ _ e=>by grind) λ_ _ _ _ e=>by grind
theorem LOK.init(e:AdOK s)(h:akQ l s=true):LOK l s:=by
 have hf:∀y,fX l y=true->s.ad y=false/\aFo (s.env y)=true:=λy hy=>by
  simp only[fX,zba]at hy
  have⟨o,ho,hd⟩:=zay.1 hy.1
  have c:=zal.1 h o ho
  rw[kI.1 hd]at c
  grind
 have a:∀x w t off,s.env x=(w, .adr t off)->fX l t=false:=λx w t off b=>by
  cases hc:fX l t with
  |false=>rfl
  |true=>have:=e.ad _ _ _ _ b;grind
 refine⟨λx w t off _ b=>a x w t _ b,λy w t off hy b=>?_,λx w t off _ b=>a x w t _ b⟩;have:=(hf y hy).2;rw[b]at this;cases this
theorem aNK{i a:Oper}{b:Tr}(j:i.apart l.toArray a=true)(n:AdOK s)(hi:AStep P l i s false b)(hj:ZOp P l a (b.app s) R):
  ZOp P l a s R/\∀x,AStep P l i (s.turn a x) false b/\b.app (s.turn a x)=(b.app s).turn a x:=by
 have⟨p,m,q⟩:=Oper.apart_spec j
 have o:∀t,i.dst≠some t->(b.app s).env t=s.env t:=λt ht=>Tr.app_env hi n ht
 refine⟨λz u g hn=>hj z (λt ht=>(u t ht).trans (o t λh=>p t h ht).symm) (g.trans (b.app_st s).1.symm) (hn.trans (b.app_st s).2.symm),λx=>⟨?_,?_⟩⟩
 ·refine hi.stable (λt ht=>St.turn_env λh=>q t h ht) (λe=>by cases e) St.turn_rest.2.2.1 (λ_ _ t _ _ _ _=>by rw[St.turn_rest.1]) λd _ had=>by rw[St.turn_rest.2.1];exact had
 ·rcases hi.kind n with⟨w,e,rfl,_⟩|⟨d,U,cs,hd,rfl,had⟩|⟨t,U,cs,g,f,rfl,hL,C,B,A,y,v⟩
  ·cases f:i.dst with
   |none=>rfl
   |some d=>
    unfold St.turn;cases k:a.dst with
    |none=>rfl
    |some d'=>
     have c:d≠d':=λh=>m d f (by grind);simp only[Tr.app,St.put,St.sst];rw[fE c]
  ·unfold St.turn
   cases k:a.dst with
   |none=>rfl
   |some d'=>
    have c:d≠d':=λh=>m d hd (by grind);simp only[Tr.app,St.put,St.sst,St.var];rw[fE c]
  ·unfold St.turn
   cases a.dst<;>rfl
def AOp(P:Program)(l:List Oper)(md:Md)(i:Nat)(K:St->Prop)(s:St):Prop:=
 match l[i]? with
 |none=>K s
 |some o=>match mD i md.z with
  |true=>∃R,ZOp P l o s R/\∀x,R x->K (s.turn o x)
  |false=>∃T,AStep P l o s (mD i md.r) T/\K (T.app s)
def AAny(P:Program)(l:List Oper)(md:Md)(K:St->Prop):Nat->Array Bool->St->Prop
 |0,listed,s=>Region.ready .any l.toArray listed=[]/\K s
 |fuel+1,listed,s=>(Region.ready .any l.toArray listed=[]->K s)/\∀i∈Region.ready .any l.toArray listed,AOp P l md i (AAny P l md K fuel (listed.setIfInBounds i true)) s
variable{md:Md}
theorem AAny.sound{K:St->Prop}{Q:Exit->Act->World->Prop}{c:Ctx}(m:∀s a w g lam,K s->SI P c s a w g lam->Q .normal a w):∀(fuel:Nat)(b:Array Bool)(s:St)(a:Act)(w:World)(g:G)(lam:Nat->Nat),
  SI P c s a w g lam->AAny P l md K fuel b s->wpAnyIn (FR c.ro) 0 P .any l.toArray Q fuel b a w
 |0,_,s,a,w,g,lam,hs,h=>⟨h.1,m s a w g lam h.2 hs⟩
 |fuel+1,b,s,a,w,g,lam,hs,h=>by
  refine⟨λh0=>m s a w g lam (h.1 h0) hs,λi hi=>?_⟩
  have j:=h.2 i hi
  unfold AOp at j
  unfold wpOpIn
  rw[show(l.toArray)[i]?=l[i]? from by simp]
  cases ho:l[i]? with
  |none=>rw[ho]at j;exact AAny.sound m fuel _ s a w g lam hs j
  |some o=>
   rw[ho]at j;have key:yV P c.ro l o a w (wpAnyIn (FR c.ro) 0 P .any l.toArray Q fuel (b.setIfInBounds i true)) Q:=by
    simp only at j;split at j
    ·have⟨R,q,p⟩:=j
     exact q s (λ_ _=>rfl) rfl rfl c a w g lam hs _ _ λu n w' g' f ⟨x,hx,e⟩ k=>by
      subst e
      exact AAny.sound m fuel _ _ n w' g' f k (p x hx)
    ·have⟨T,hT,p⟩:=j
     exact hT.sound hs (Q:=Q) λn w' g' f k=>AAny.sound m fuel _ _ n w' g' f k p
   unfold yV at key;simp only;split at key
   ·grind
   ·rename_i hw;rw[zn hw];exact⟨λ_ _=>trivial,key⟩
def aNo(a:Oper)(i:Nat):Bool:=a.after.any λe=>Region.binds .any e&&e.on==i
def xN(l:List Oper)(md:Md)(i:Nat)(a:Oper)(j:Nat)(b:Oper):Bool:=
 match mD i md.z,mD j md.z with
 |true,_=>false
 |false,true=>a.apart l.toArray b&& !mD i md.r
 |false,false=>a.apart l.toArray b&& !aiE l a b
def aBy(l:List Oper)(md:Md)(a:Array Bool)(i:Nat):Bool:=
 match l[i]? with
 |none=>false
 |some oi=>(List.range l.length).all λj=>j==i||a.getD j true||match l[j]? with
   |some oj=>aNo oj i||xN l md i oi j oj
   |none=>true
theorem xU{a:Array Bool}(hi:l[i]?=some k)(h:aBy l md a i=true)(j:Nat)(g:Oper)(hj:l[j]?=some g)(c:j≠i)(f:a.getD j true=false)(m:∀e∈g.after,Region.binds .any e=true->e.on≠i):
  xN l md i k j g=true:=by
 simp only[aBy,hi,zal,zmr]at h
 have b:=h j (zge.1 hj).1
 simp only[hj,Bool.or_eq_true,beq_iff_eq,c,false_or,f,Bool.false_eq_true]at b
 rcases b with b|b
 ·have⟨e,n,hb⟩:=Array.any_eq_true'.1 b
  grind
 ·exact b
theorem anL{j:Nat}{a:Array Bool}(k:i∈Region.ready .any l.toArray a)(hj:j∈Region.ready .any l.toArray a){f:Oper}(h:l[j]?=some f):∀e∈f.after,Region.binds .any e=true->e.on≠i:=λe n hb g=>by
 have⟨_,m,c,b⟩:=mem_ready.1 hj
 have h0:=(mem_ready.1 k).1
 grind
theorem AAny.first{B:Oper}(hi:l[i]?=some B)(hz:mD i md.z=false):∀(fuel:Nat)(a:Array Bool)(s:St),
  (∀j q,l[j]?=some q->j≠i->a.getD j true=false->(∀e∈q.after,Region.binds .any e=true->e.on≠i)->xN l md i B j q=true)->
  AdOK s->LOK l s->i∈Region.ready .any l.toArray a->AStep P l B s (mD i md.r) A->AAny P l md K fuel (a.setIfInBounds i true) (A.app s)->AAny P l md K (fuel+1) a s:=by
 intro fuel
 induction fuel with
 |zero=>
  intro a s _ _ _ o hy H;refine⟨λh=>(by rw[h]at o;cases o),λj hj=>?_⟩;by_cases b:j=i
  ·subst b;unfold AOp;rw[hi];simp only[hz];exact⟨A,hy,H⟩
  ·have:=ready_mono hj b
   rw[H.1]at this;cases this
 |succ fuel ih=>
  intro a s g u p o hy H;refine⟨λh=>(by rw[h]at o;cases o),λj hj=>?_⟩;by_cases b:j=i
  ·subst b;unfold AOp;rw[hi];simp only[hz];exact⟨A,hy,H⟩
  ·have m:=H.2 j (ready_mono hj b)
   have⟨n,q,G,J⟩:=mem_ready.1 hj;have c:l[j]?=some q:=by simpa using G
   have hp:=g j q c b n (anL o hj c);have f:∀k ok,l[k]?=some ok->k≠i->(a.setIfInBounds j true).getD k true=false->(∀e∈ok.after,Region.binds .any e=true->e.on≠i)->xN l md i B k ok=true:=λk ok hk E w F=>by
    refine g k ok hk E ?_ F
    by_cases v:j=k
    ·subst v;exact n
    ·rw[getD_set_ne true v]at w;exact w
   unfold AOp at m⊢;rw[c]at m⊢;unfold xN at hp;rw[hz]at hp;cases y:mD j md.z with
   |true=>
    rw[y]at m hp;simp only[zba,Bool.not_eq_true']at hp m⊢;have⟨R,M,C⟩:=m;rw[hp.2]at hy;have⟨c1,c2⟩:=aNK hp.1 u hy M;refine⟨R,c1,λx hx=>ih (a.setIfInBounds j true) (s.turn q x) f u.turn (p.turn (List.mem_of_getElem? c)) (ready_mono o (Ne.symm b)) (by rw[hp.2];exact(c2 x).1) ?_⟩;rw[Array.setIfInBounds_comm _ _ b,(c2 x).2];exact C x hx
   |false=>
    rw[y]at m hp;simp only[zba,Bool.not_eq_true']at hp m⊢;have⟨I,D,C⟩:=m;have⟨c1,c2,L⟩:=aNu hp.1 hp.2 u p hy D;refine⟨I,c1,ih (a.setIfInBounds j true) (I.app s) f (c1.adOK u) (p.step (List.mem_of_getElem? c) c1 u) (ready_mono o (Ne.symm b)) c2 ?_⟩;rw[Array.setIfInBounds_comm _ _ b,<-L];exact C
theorem AAny.alone(hi:l[i]?=some g)(hz:mD i md.z=true)(fuel:Nat)(a:Array Bool)(s:St)(c:∀j k,l[j]?=some k->j≠i->a.getD j true=false->(∀e∈k.after,Region.binds .any e=true->e.on≠i)->xN l md i g j k=true)(p:i∈Region.ready .any l.toArray a)(hy:ZOp P l g s R)(H:∀x,R x->AAny P l md K fuel (a.setIfInBounds i true) (s.turn g x)):AAny P l md K (fuel+1) a s:=by
 refine⟨λh=>(by grind),λj hj=>?_⟩
 by_cases m:j=i
 ·unfold AOp;grind
 ·have⟨f,k,n,o⟩:=mem_ready.1 hj
  have b:=by simpa using n
  have hp:=c j _ b m f (anL p hj b);unfold xN at hp
  grind
def uA(l:List Oper)(md:Md):Nat->Nat->Array Bool->Bool
 |0,_,listed=>(Region.ready .any l.toArray listed).isEmpty
 |fuel+1,k,listed=>(Region.ready .any l.toArray listed).contains k&&aBy l md listed k&&uA l md fuel (k+1) (listed.setIfInBounds k true)
def azF(l:List Oper)(md:Md):Bool:=uA l md l.length 0 (Array.replicate l.length false)
def EvD(P:Program)(l:List Oper)(md:Md):List Oper->St->(St->Prop)->Prop
 |[],s,K=>K s
 |o::r,s,K=>match mD (l.length-(r.length+1)) md.z with
  |true=>∃R,ZOp P l o s R/\∀x,R x->EvD P l md r (s.turn o x) K
  |false=>∃T,AStep P l o s (mD (l.length-(r.length+1)) md.r) T/\EvD P l md r (T.app s) K
theorem AAny.lex{K:St->Prop}:∀(r:List Oper)(k:Nat)(a:Array Bool)(s:St),l.length=k+r.length->(∀j,r[j]?=l[k+j]?)->AdOK s->LOK l s->uA l md r.length k a=true->EvD P l md r s K->AAny P l md K r.length a s
 |[],_,_,_,_,_,_,_,hB,h=>⟨by simpa[uA]using hB,h⟩
 |o::r,k,a,s,hlen,hl,hA,hLK,hB,h=>by
  have h0:l[k]?=some o:=by simpa using(hl 0).symm
  have hk:l.length-(r.length+1)=k:=by rw[hlen];simp
  simp only[zlc,uA,zba]at hB
  obtain⟨⟨m,hf⟩,f⟩:=hB
  unfold EvD at h
  rw[hk]at h
  have ho:o∈l:=List.mem_of_getElem? h0
  have b:∀c,AdOK c->LOK l c->EvD P l md r c K->AAny P l md K r.length _ c:=λc e i n=>
   AAny.lex r (k+1) _ _ (by rw[hlen];simp;omega) (λj=>by have:=hl (j+1);grind) e i f n
  cases hz:mD k md.z with
  |true=>
   rw[hz]at h;have⟨R,p,g⟩:=h;exact AAny.alone h0 hz r.length a s (xU h0 hf) (by simpa using m) p λx hx=>b _ hA.turn (hLK.turn ho) (g x hx)
  |false=>
   rw[hz]at h;have⟨T,hT,g⟩:=h;exact AAny.first h0 hz r.length a s (xU h0 hf) hA hLK (by simpa using m) hT (b _ (hT.adOK hA) (hLK.step ho hT hA) g)
theorem aFr{id:Nat}(hm:P.follows .mixedOrders=true)(n:azF l md=true)(o:akQ l s=true)(h:EvD P l md l s (Q .normal)):PWp P (.region id l.toArray true) Q s:=by
 intro c a w g lam hs;refine wpIn_region_any hm ?_;have⟨k,m⟩:=qI hs.mem _ (Nat.le_succ _);have f:=hs.world k (Le.refl g) (m.mono λ_ h=>h.elim);have:=AAny.lex l 0 _ s (by simp) (by simp) hs.adOK (LOK.init hs.adOK o) n h;have:=AAny.sound (Q:=λe j w'=>∃i g' b,Q e i/\SI P c i j w' g' b) (λs a w g lam hk hs=>⟨s,g,lam,hk,hs⟩) _ _ _ _ _ _ _ f this
 grind
end
end
section
inductive TK where
 |int (k:IntKind)
 |bool
 |str
 |slice (e:TypeId)
 |arr (n:Nat) (e:TypeId)
 |struct (fs:List (TypeId×Nat))
 |map (k e:TypeId)
 |other
structure TI where
 size:Nat
 agg:Bool
 z:List Value
 k:TK
 cmp:Bool
def rP(P:Program):Nat->TypeId->Bool
  |0,_=>false
  |d+1,t=>match P.underlying t with
    |some (.int _)|some .bool|some .string=>true
    | some (.struct fs) => !P.stoodInHeld t && fs.toList.all λf =>f.name != "_" && rP P d f.type
    |some (.array _ e)=>rP P d e
    |_=>false
def jT(P:Program)(t:TypeId):TK:=
 match P.underlying t with
 |some (.int k)=> .int k
 |some .bool=> .bool
 |some .string=> .str
 |some (.slice e)=> .slice e
 |some (.array n e)=> .arr n e
 |some (.struct fs)=> .struct (fs.toList.map λf=>(f.type,f.offset))
 |some (.map k e)=> .map k e
 |_=> .other
def asK(P:Program):TypeDesc->Bool
 | .struct fs=>fs.toList.all λf=>(P.info? f.type).isSome
 |_=>true
def ayC :Value->Bool
 | .agg _=>true
 |_=>false
def aJW(P:Program)(t:TypeId):Option TI:=
 match P.info? t with
 |some i=>match i.zero,P.underlying t with
  |some z,some d=>if asK P d&&(bK P t==ayC z)then some {size:=i.size,agg:=bK P t,z:=z.cells.toList,k:=jT P t,cmp:=rP P 10 t&& !P.eqGuardType P.depth t}else none
  |_,_=>none
 |none=>none
abbrev TT :=List (Option TI)
def bI(P:Program)(tt:TT):Prop:=∀t i,tt[t]?=some (some i)->aJW P t=some i
theorem aKx{tt:TT}(h:(tt.zipIdx.map λx=>match x.1 with|none=>none|some _=>aJW P x.2)=tt):bI P tt:=by
 intro t i ht
 grind
theorem oH{t:TypeId}{i:TI}(h:aJW P t=some i):
  (P.info? t).map (·.size)=some i.size/\bK P t=i.agg/\(P.underlying t).isSome=true/\(∃z,(P.info? t).bind (·.zero)=some z/\z.cells.toList=i.z/\ayC z=i.agg)/\jT P t=i.k/\
   (i.cmp=true->rP P 10 t=true/\P.eqGuardType P.depth t=false)/\P.cellsOf t=i.size/\(∀fs,P.underlying t=some (.struct fs)->∀f∈fs.toList,(P.info? f.type).isSome=true):=by
 unfold aJW at h
 cases hi:P.info? t with
 |none=>grind
 |some inf=>
  rw[hi]at h;simp only at h;split at h
  ·rename_i z d hz hu
   split at h
   ·rename_i hf
    rw[zba]at hf;injection h with h
    subst h;refine⟨by simp,rfl,by simp[hu],⟨z,by simp[hz],rfl,(by grind:bK P t=ayC z).symm⟩,rfl,by simp,by simp[Program.cellsOf,hi],λfs e f a=>?_⟩;rw[hu]at e;injection e with e
    subst e;simp only[asK,zal]at hf
    grind
   ·cases h
  ·cases h
def aP(tt:TT)(t:TypeId):Option Nat:=match tt[t]? with|some (some ⟨n,_,_,_,_⟩)=>some n|_=>none
def lO(tt:TT)(t:TypeId):Option Bool:=match tt[t]? with|some (some ⟨_,a,_,_,_⟩)=>some a|_=>none
def tiZ(tt:TT)(t:TypeId):Option (List Value):=match tt[t]? with|some (some ⟨_,_,z,_,_⟩)=>some z|_=>none
def tiK(tt:TT)(t:TypeId):Option TK:=match tt[t]? with|some (some ⟨_,_,_,k,_⟩)=>some k|_=>none
def avG(tt:TT)(t:TypeId):Bool:=match tt[t]? with|some (some ⟨_,_,_,_,c⟩)=>c|_=>false
theorem aQ{tt:TT}(h:bI P tt){n:Nat}(e:aP tt t=some n):(P.info? t).map (·.size)=some n/\P.cellsOf t=n:=by
 unfold aP at e;split at e
 ·rename_i x a z k c hx;have:=oH (h t _ hx);grind
 ·cases e
theorem cH{tt:TT}(h:bI P tt){a:Bool}(e:lO tt t=some a):bK P t=a/\(P.underlying t).isSome=true:=by
 unfold lO at e;split at e
 ·rename_i x a z k c hx;have:=oH (h t _ hx);grind
 ·cases e
theorem nH{tt:TT}(h:bI P tt){z:List Value}(e:tiZ tt t=some z):∃v,(P.info? t).bind (·.zero)=some v/\v.cells.toList=z:=by
 unfold tiZ at e;split at e
 ·rename_i x a z k c hx;have⟨v,b,f,_⟩:=(oH (h t _ hx)).2.2.2.1;grind
 ·cases e
def pzv(tt:TT)(t:TypeId):Option PV:=
 match tt[t]? with
 |some (some ⟨_,true,z,_,_⟩)=>some (.agg (z.map .val))
 |some (some ⟨_,false,[z],_,_⟩)=>some (.val z)
 |_=>none
theorem aAM{tt:TT}(h:bI P tt){p:PV}(e:pzv tt t=some p):∃v,(P.info? t).bind (·.zero)=some v/\∀g,Rep g p v:=by
 unfold pzv at e;split at e
 ·rename_i n z k c hx
  injection e with e;subst e
  have⟨v,f,a,i⟩:=(oH (h t _ hx)).2.2.2.1;refine⟨v,f,λg=>?_⟩;cases v<;>first|cases i;done|skip
  rename_i cs;simp only[Rep];refine⟨cs.toList,by simp,?_⟩;have b:cs.toList=z:=a;rw[b];clear f a b i hx
  induction z with
  |nil=>simp[RepL]
  |cons x xs ih=>exact⟨x,xs,rfl,by simp[Rep],ih⟩
 ·rename_i n z k c hx
  injection e with e;subst e
  have⟨v,f,a,i⟩:=(oH (h t _ hx)).2.2.2.1;refine⟨v,f,λg=>?_⟩;cases v<;>first|cases i;done|(simp[Value.cells]at a;simp[Rep,a])
 ·cases e
theorem aR{tt:TT}(h:bI P tt){k:TK}(e:tiK tt t=some k):jT P t=k/\(P.underlying t).isSome=true:=by
 unfold tiK at e;split at e
 ·rename_i x a z k c hx;have:=oH (h t _ hx);grind
 ·cases e
theorem aH4{tt:TT}(h:bI P tt)(e:avG tt t=true):rP P 10 t=true/\P.eqGuardType P.depth t=false:=by
 unfold avG at e;split at e
 ·rename_i x a z k c hx;have:=oH (h t _ hx);grind
 ·cases e
theorem sX{t:TypeId}{k:IntKind}(h:jT P t= .int k):P.underlying t=some (.int k):=by
 unfold jT at h;grind
theorem cD{t:TypeId}(h:jT P t= .slice e):P.underlying t=some (.slice e):=by
 unfold jT at h;grind
theorem pA{t:TypeId}(h:jT P t= .str):P.underlying t=some .string:=by
 unfold jT at h;grind
theorem jN{e n:Nat}(h:jT P t= .arr n e):P.underlying t=some (.array n e):=by
 unfold jT at h;grind
theorem xJ{k e:Nat}(h:jT P t= .map k e):P.underlying t=some (.map k e):=by
 unfold jT at h;grind
theorem fJ{t:TypeId}{fs:List (TypeId×Nat)}(h:jT P t= .struct fs):∃a,P.underlying t=some (.struct a)/\a.toList.map (λf=>(f.type,f.offset))=fs:=by
 unfold jT at h;grind
theorem aN{p:PV}(h:∀w g (ρ:Operand->Value),MemOK P s.st w g->(∀x∈o.op.operands,kC g s x (ρ x))->∃v,(execOp ρ o).run P w= .ok (.value v) w/\Rep g p v):OpV P o s p:=
 λw g ρ hm hρ=>by
  have⟨v,a,b⟩:=h w g _ hm hρ
  rw[a]
  exact⟨g,b,hm,Le.refl g,Frame.refl _ w g⟩
theorem aL{g:G}{u v:Value}(h:Rep g (.val u) v):v=u:=‹_›
def rY :IntKind->IntKind->Bool
 | .i8, .i8| .i16, .i16| .i32, .i32| .i64, .i64| .u8, .u8| .u16, .u16| .u32, .u32| .u64, .u64=>true
 |_,_=>false
theorem jR{a b:IntKind}(h:rY a b=true):a=b:=by cases a<;>cases b<;>first|rfl|cases h
def anX(f:TypeId->List PV->List PV->Option Bool)(sz:TypeId->Option Nat)(cs ds:List PV):List (TypeId×Nat)->Option Bool
  |[]=>some true
  |(t,off)::fs=>match sz t with
    |some n=>bif Nat.beq (dD cs off n).length n&&Nat.beq (dD ds off n).length n then
      match f t (dD cs off n) (dD ds off n)with
      |some a=>match fs with
        |[]=>some a
        |_::_=>match anX f sz cs ds fs with
          |some b=>some (a&&b)
          |none=>none
      |none=>none
      else none
    |none=>none
def aBC(e sz:Nat):Nat->Nat->List (TypeId×Nat)
 |_,0=>[]
 |i,n+1=>(e,i*sz)::aBC e sz (i+1) n
theorem awG(e sz:Nat):∀(n i:Nat),aBC e sz i n=(List.range' i n).map λj=>(e,j*sz)
 |0,_=>rfl
 |n+1,i=>by rw[aBC,awG e _ n _,List.range'_succ,zmp]
def peq(tt:TT):Nat->TypeId->List PV->List PV->Option Bool
 |0,_,_,_=>none
 |d+1,t,cs,ds=>match tiK tt t with
  |some (.int _)=>match cs,ds with
   |[.val (.int k a)],[.val (.int k' b)]=>bif rY k k' then some (decide (a=b))else none
   |_,_=>none
  |some .bool=>match cs,ds with
   |[.val (.bool a)],[.val (.bool b)]=>some (a==b)
   |_,_=>none
  |some .str=>match cs,ds with
   |[.val (.string a)],[.val (.string b)]=>some (decide (a=b))
   |_,_=>none
  |some (.struct fs)=>anX (peq tt d) (aP tt) cs ds fs
  |some (.arr n e)=>match aP tt e with
   |some sz=>anX (peq tt d) (aP tt) cs ds (aBC e sz 0 n)
   |none=>none
  |_=>none
def aLr(tt:TT)(op:BinOp)(T:TypeId):PV->PV->Option PV
 | .val (.int k a), .val (.int k' b)=>bif rY k k' then(match op with
   | .lss=>some (.val (.bool (decide (a<b))))
   | .leq=>some (.val (.bool (decide (a<=b))))
   | .gtr=>some (.val (.bool (decide (a>b))))
   | .geq=>some (.val (.bool (decide (a>=b))))
   | .eql=>some (.val (.bool (decide (a=b))))
   | .neq=>some (.val (.bool (!decide (a=b))))
   |_=>none)else none
 | .val (.bool a), .val (.bool b)=>match op,tiK tt T with
   | .eql,some .bool=>some (.val (.bool (a==b)))
   | .neq,some .bool=>some (.val (.bool (!(a==b))))
   |_,_=>none
 | .val (.string a), .val (.string b)=>match op with
   | .eql=>some (.val (.bool (decide (a=b))))
   | .neq=>some (.val (.bool (!decide (a=b))))
   | .lss=>some (.val (.bool (Op.bytesLess a.toList b.toList)))
   |_=>none
 | .agg cs, .agg ds=>bif avG tt T&&(match lO tt T with|some true=>true|_=>false)then(match op with
   | .eql=>match peq tt 10 T cs ds with|some b=>some (.val (.bool b))|none=>none
   | .neq=>match peq tt 10 T cs ds with|some b=>some (.val (.bool (!b)))|none=>none
   |_=>none)else none
 |_,_=>none
theorem aqS(a b:ByteArray):(a.toList==b.toList)=decide (a=b):=by
 rw[ByteArray.toList_eq,ByteArray.toList_eq];obtain⟨⟨x⟩⟩:=a;obtain⟨⟨y⟩⟩:=b
 grind
theorem nF{g:G}{p:PV}{vs:List Value}(h:RepL g [p] vs):∃v,vs=[v]/\Rep g p v:=by
 simp only[RepL]at h
 grind
def VR(P:Program)(g:G)(t:TypeId)(cs:List PV)(x:Value):Prop:=
 (bK P t=true->∃xs:Array Value,x= .agg xs/\RepL g cs xs.toList)/\(bK P t=false->RepL g cs [x])
theorem tF{w:World}{g:G}{t:TypeId}{vs:Array Value}{n:Nat}(hu:(P.underlying t).isSome=true)(hn:(P.info? t).map (·.size)=some n)(h:RepL g cs vs.toList)(hl:(dD cs off n).length=n)(i:bK P t=false->n=1):∃v,(part t vs off).run P w= .ok v w/\VR P g t (dD cs off n) v:=by
 have f:=(h.drop off).take n
 have a:=h.length
 cases ha:bK P t with
 |true=>
  refine⟨.agg (vs.extract off (off+n)),by simp[part,eB ha hu,aZ hn],⟨λ_=>⟨_,rfl,?_⟩,λe=>absurd (ha.symm.trans e) (by simp)⟩⟩
  simpa
 |false=>
  have c:=i ha;subst c;have b:off<vs.size:=by simp[dD]at hl a;omega
  refine⟨vs[off],by simp[part,eB ha hu,b],⟨λe=>absurd (ha.symm.trans e) (by simp),λ_=>?_⟩⟩;have:(vs.toList.drop off).take 1=[vs[off]]:=by
   rw[List.drop_eq_getElem_cons ‹_›];simp
  rw[this]at f;exact f
theorem aiD{P:Program}{tt:TT}(htt:bI P tt){w:World}{g:G}{d n:Nat}
    (D:∀t cs ds x y b,peq tt d t cs ds=some b->rP P d t=true->VR P g t cs x->VR P g t ds y->(Op.equalIn n t x y).run P w= .ok b w)
    {cs ds:List PV} {xs u:Array Value} (hx:RepL g cs xs.toList) (hy:RepL g ds u.toList):∀(fs:List Field)(b:Bool),anX (peq tt d) (aP tt) cs ds (fs.map λf=>(f.type,f.offset))=some b->
      (fs.all λf =>f.name != "_" && rP P d f.type) = true ->(Op.eqFields n xs u fs).run P w = .ok b w
  |[],b,h,_=>by simp[anX]at h;subst h;rfl
  |f::fs,b,h,hc=>by
    simp only[List.all_cons,zba]at hc
    obtain⟨⟨A,i⟩,B⟩:=hc
    simp only[zmp,anX]at h
    split at h
    case h_2=>cases h
    rename_i k hk
    have c:(dD cs f.offset k).length=k/\(dD ds f.offset k).length=k:=by
      cases hb:(Nat.beq (dD cs f.offset k).length k&&Nat.beq (dD ds f.offset k).length k)with
      |false=>rw[hb]at h;simp at h
      |true=>
        rw[zba]at hb;exact⟨Nat.eq_of_beq_eq_true hb.1,Nat.eq_of_beq_eq_true hb.2⟩
    rw[show(Nat.beq (dD cs f.offset k).length k&&Nat.beq (dD ds f.offset k).length k)=true from by rw[c.1,c.2];simp]at h
    simp only[zqt]at h
    split at h
    case h_2=>cases h
    rename_i a ha
    have⟨k1,k2⟩:=aQ htt hk
    have hu:(P.underlying f.type).isSome=true:=by
      cases d with
      |zero=>simp[rP]at i
      |succ d=>simp only[rP]at i;cases hh:P.underlying f.type with
        |none=>rw[hh]at i;cases i
        |some _=>rfl
    have key:bK P f.type=false->k=1:=by
      intro o;cases d with
      |zero=>simp[peq]at ha
      |succ d=>
        simp only[peq]at ha;split at ha
        · split at ha
          · rename_i j v;rw[j]at c;simpa using c.1.symm
          · cases ha
        · split at ha
          · rename_i j v;rw[j]at c;simpa using c.1.symm
          · cases ha
        · split at ha
          · rename_i j v;rw[j]at c;simpa using c.1.symm
          · cases ha
        · rename_i E m
          have⟨q,j,v⟩:=fJ (aR htt m).1;simp[bK,j]at o
        · rename_i n' N m
          have j:=jN (aR htt m).1;simp[bK,j]at o
        · cases ha
    have⟨x,I,J⟩:=tF (w:=w) hu k1 hx c.1 key
    have⟨y,L,M⟩:=tF (w:=w) hu k1 hy c.2 key
    have p:=D f.type _ _ x y a ha i J M
    have C : f.name ≠ "_" :=by simpa using A
    have step:∀r:Bool,(a=true->(Op.eqFields n xs u fs).run P w= .ok r w)->(a=false->r=false)->(Op.eqFields n xs u (f::fs)).run P w= .ok r w:=by
      intro r F H;simp only[Op.eqFields,ne_eq,C,not_false_eq_true,if_true,Sem.run_bind,I,L,p,Result.andThen_ok];cases a with
      |false=>simp[H rfl]
      |true=>simpa using F rfl
    cases fs with
    |nil=>
      simp at h;subst h;exact step a (λe=>by subst e;rfl) (λe=>e)
    |cons f2 fs2=>
      simp only[zmp]at h;split at h
      case h_2=>cases h
      rename_i b' z;injection h with h
      subst h;have:=aiD htt D hx hy (f2::fs2) b' (by simpa using z) B;refine step (a&&b') (λe=>by subst e;simpa using this) λe=>by subst e;rfl
theorem ajT{P:Program}{tt:TT}(htt:bI P tt){w:World}{g:G}{d n:Nat}
  (A:∀t cs ds x y b,peq tt d t cs ds=some b->rP P d t=true->VR P g t cs x->VR P g t ds y->(Op.equalIn n t x y).run P w= .ok b w)
  {cs ds:List PV} {xs u:Array Value} (hx:RepL g cs xs.toList) (hy:RepL g ds u.toList):∀{e sz:Nat}(is:List Nat)(b:Bool),anX (peq tt d) (aP tt) cs ds (is.map λi=>(e,i*sz))=some b->aP tt e=some sz->
   rP P d e=true->(Op.eqItems n e sz xs u is).run P w= .ok b w
 |_,_,[],b,h,_,_=>by simp[anX]at h;subst h;rfl
 |e,sz,f::fs,b,h,hsz,hc2=>by
  simp only[zmp,anX]at h
  split at h
  case h_2=>cases h
  rename_i k hk
  have c:(dD cs (f*sz) k).length=k/\(dD ds (f*sz) k).length=k:=by
   cases hb:(Nat.beq (dD cs (f*sz) k).length k&&Nat.beq (dD ds (f*sz) k).length k)with
   |false=>rw[hb]at h;simp at h
   |true=>
    rw[zba]at hb;exact⟨Nat.eq_of_beq_eq_true hb.1,Nat.eq_of_beq_eq_true hb.2⟩
  rw[show(Nat.beq (dD cs (f*sz) k).length k&&Nat.beq (dD ds (f*sz) k).length k)=true from by rw[c.1,c.2];simp]at h
  simp only[zqt]at h
  split at h
  case h_2=>cases h
  rename_i a ha
  have⟨k1,k2⟩:=aQ htt hk
  have hu:(P.underlying e).isSome=true:=by
   cases d with
   |zero=>simp[rP]at hc2
   |succ d=>simp only[rP]at hc2;cases hh:P.underlying e with
    |none=>rw[hh]at hc2;cases hc2
    |some _=>rfl
  have key:bK P e=false->k=1:=by
   intro o;cases d with
   |zero=>simp[peq]at ha
   |succ d=>
    simp only[peq]at ha;split at ha
    ·split at ha
     ·rename_i j v;rw[j]at c;simpa using c.1.symm
     ·cases ha
    ·split at ha
     ·rename_i j v;rw[j]at c;simpa using c.1.symm
     ·cases ha
    ·split at ha
     ·rename_i j v;rw[j]at c;simpa using c.1.symm
     ·cases ha
    ·rename_i B m
     have⟨q,j,v⟩:=fJ (aR htt m).1;simp[bK,j]at o
    ·rename_i n' L m
     have j:=jN (aR htt m).1;simp[bK,j]at o
    ·cases ha
  have⟨x,F,H⟩:=tF (w:=w) hu k1 hx c.1 key
  have⟨y,I,J⟩:=tF (w:=w) hu k1 hy c.2 key
  have p:=A e _ _ x y a ha hc2 H J
  have step:∀r:Bool,(a=true->(Op.eqItems n e sz xs u fs).run P w= .ok r w)->(a=false->r=false)->(Op.eqItems n e sz xs u (f::fs)).run P w= .ok r w:=by
   intro r C D;have E:k=sz:=by rw[hsz]at hk;injection hk with hk;exact hk.symm
   simp only[Op.eqItems,Sem.run_bind,F,I,p,Result.andThen_ok];cases a with
   |false=>simp[D rfl]
   |true=>simpa using C rfl
  cases fs with
  |nil=>
   simp at h;subst h;exact step a (λe=>by subst e;rfl) (λe=>e)
  |cons f2 fs2=>
   simp only[zmp]at h;split at h
   case h_2=>cases h
   rename_i b' z;injection h with h
   subst h;have:=ajT htt A hx hy (f2::fs2) b' (by simpa using z) hsz hc2;refine step (a&&b') (λe=>by subst e;simpa using this) λe=>by subst e;rfl
theorem lD{P:Program}{tt:TT}(htt:bI P tt){w:World}{g:G}:∀(d n:Nat),d<=n->∀t cs ds x y b,peq tt d t cs ds=some b->rP P d t=true->VR P g t cs x->VR P g t ds y->(Op.equalIn n t x y).run P w= .ok b w
 |0,_,_,t,cs,ds,x,y,b,h,_,_,_=>by simp[peq]at h
 |d+1,0,hn,_,_,_,_,_,_,_,_,_,_=>by omega
 |d+1,n+1,hn,t,cs,ds,x,y,b,h,hc,hx,hy=>by
  simp only[peq]at h
  split at h
  ·rename_i k hk
   have hu:=sX (aR htt hk).1;have a:bK P t=false:=by simp[bK,hu]
   split at h
   ·rename_i k1 S k2 T
    have⟨v,j,B⟩:=nF (hx.2 a);have⟨R,c,o⟩:=nF (hy.2 a);injection j with j _
    injection c with c _
    rw[j,c,aL B,aL o];cases u:rY k1 k2 with
    |false=>rw[u]at h;simp at h
    |true=>
     rw[u]at h;have:=jR u;subst this;simp at h;subst h;rw[run_equalIn_int w n t k1 k S T hu];rfl
   ·cases h
  ·rename_i hk
   have hu:P.underlying t=some .bool:=by
    have:=(aR htt hk).1;unfold jT at this;split at this<;>simp_all
   have a:bK P t=false:=by simp[bK,hu]
   split at h
   ·have⟨v,j,B⟩:=nF (hx.2 a)
    have⟨R,c,o⟩:=nF (hy.2 a);injection j with j _
    injection c with c _
    rw[j,c,aL B,aL o];injection h with h
    subst h;exact run_equalIn_bool w n t _ _ hu
   ·cases h
  ·rename_i hk
   have hu:=pA (aR htt hk).1;have a:bK P t=false:=by simp[bK,hu]
   split at h
   ·have⟨v,j,B⟩:=nF (hx.2 a)
    have⟨R,c,o⟩:=nF (hy.2 a);injection j with j _
    injection c with c _
    rw[j,c,aL B,aL o];injection h with h
    subst h;rw[run_equalIn_string w n t _ _ hu,aqS]
   ·cases h
  ·rename_i fs hk
   have⟨f,hu,I⟩:=fJ (aR htt hk).1;have a:bK P t=true:=by simp[bK,hu]
   obtain⟨xs,rfl,z⟩:=hx.1 a;obtain⟨Q,rfl,A⟩:=hy.1 a;simp only[rP,hu,zba]at hc;have L:P.stoodInHeld t=false:=by simpa using hc.1
   have C:P.fieldsOf t=f:=by simp[Program.fieldsOf,hu]
   rw[run_equalIn_struct w n t xs Q (by rw[C];exact hu) L,C];exact aiD htt (λM p q N O b' E F H h4=>lD htt d n (by omega) M p q N O b' E F H h4) z A f.toList b (by rw[I];exact h) hc.2
  ·rename_i m e hk
   have hu:=jN (aR htt hk).1;have a:bK P t=true:=by simp[bK,hu]
   obtain⟨xs,rfl,z⟩:=hx.1 a;obtain⟨Q,rfl,A⟩:=hy.1 a;simp only[rP,hu]at hc;split at h
   ·rename_i sz D
    have⟨k1,k2⟩:=aQ htt D;obtain⟨U,J⟩:∃i,P.info? e=some i:=by
     cases hh:P.info? e with
     |none=>rw[hh]at k1;cases k1
     |some i=>exact⟨i,rfl⟩
    rw[run_equalIn_array (w:=w) n xs Q hu J,k2];rw[awG,<-List.range_eq_range']at h;exact ajT htt (λM p q N O b' E F H h4=>lD htt d n (by omega) M p q N O b' E F H h4) z A (List.range m) b h D hc
   ·cases h
  ·cases h
theorem fH{w:World}{T2:TypeId}{x y:Operand}{v:Value}(ho:o.op= .binOp op U x y T2)(a:(eqGuard op U x y (ρ x) (ρ y)).run P w= .ok () w)(b:(binOp op U (ρ x) (ρ y)).run P w= .ok v w):(execOp ρ o).run P w= .ok (.value v) w:=by
 simp only[execOp,ho,Sem.run_bind,a,b,Result.andThen_ok,Sem.run_pure]
theorem tW{g:G}{t:TypeId}{x:Value}(h:Rep g (.agg cs) x)(ht:bK P t=true):VR P g t cs x:=by
 obtain⟨vs,rfl,h⟩:=h;exact⟨λ_=>⟨vs.toArray,rfl,‹_›⟩,λe=>absurd (ht.symm.trans e) (by simp)⟩
theorem aKH{tt:TT}(htt:bI P tt){T2:TypeId}{x y:Operand}{a p:PV}(ho:o.op= .binOp op U x y T2)(hx:opd s x=some a)(hy:opd s y=some b)(h:aLr tt op U a b=some p):OpV P o s p:=by
 refine aN λw g ρ _ hρ=>?_;have q:=hρ x (by rw[ho];simp[Op.operands]) a hx;have u:=hρ y (by rw[ho];simp[Op.operands]) b hy;unfold aLr at h;split at h
 ·rename_i k e k' f
  have ex:=aL q;have c:=aL u;cases hk:rY k k' with
  |false=>rw[hk]at h;simp at h
  |true=>
   rw[hk]at h;have:=jR hk;subst this;simp only[zqt]at h;refine⟨?_,?_⟩
   ·exact match op with
    | .lss=> .bool (decide (e<f))| .leq=> .bool (decide (e<=f))| .gtr=> .bool (decide (e>f))| .geq=> .bool (decide (e>=f))| .eql=> .bool (decide (e=f))| .neq=> .bool (!decide (e=f))|_=> .bool true
   ·cases op<;>simp only[reduceCtorEq,Option.some.injEq]at h<;>(try(cases h;done))<;>subst h<;>refine⟨fH ho ?_ ?_,by simp[Rep]⟩<;>rw[ex,c]<;>simp[eqGuard,binOp,Op.intCmp,bne]<;>rfl
 ·rename_i e f
  have ex:=aL q;have c:=aL u;have hu:tiK tt U=some .bool->P.underlying U=some .bool:=λhk=>by
   have:=(aR htt hk).1;unfold jT at this;split at this<;>simp_all
  split at h
  ·rename_i hk
   injection h with h;subst h
   refine⟨.bool (e==f),fH ho (by rw[ex,c];simp[eqGuard]) ?_,by simp[Rep]⟩;rw[ex,c];simp[binOp,run_equal_bool w U e f (hu hk)]
  ·rename_i hk
   injection h with h;subst h
   refine⟨.bool (!(e==f)),fH ho (by rw[ex,c];simp[eqGuard]) ?_,by simp[Rep]⟩;rw[ex,c];simp[binOp,run_equal_bool w U e f (hu hk)]
  ·cases h
 ·rename_i e f
  have ex:=aL q;have c:=aL u;split at h
  ·injection h with h;subst h
   refine⟨.bool (decide (e=f)),fH ho (by rw[ex,c];simp[eqGuard]) ?_,by simp[Rep]⟩;rw[ex,c,<-aqS];simp[binOp,Op.stringOp]
  ·injection h with h;subst h
   refine⟨.bool (!decide (e=f)),fH ho (by rw[ex,c];simp[eqGuard]) ?_,by simp[Rep]⟩;rw[ex,c,<-aqS];simp[binOp,Op.stringOp]
  ·injection h with h;subst h
   refine⟨.bool (Op.bytesLess e.toList f.toList),fH ho (by rw[ex,c];simp[eqGuard]) ?_,by simp[Rep]⟩;rw[ex,c];simp[binOp,Op.stringOp]
  ·cases h
 ·rename_i cs ds
  cases j:(avG tt U&&(match lO tt U with|some true=>true|_=>false))with
  |false=>rw[j]at h;simp at h
  |true=>
   rw[j]at h;simp only[zqt]at h;rw[zba]at j;have hc:=j.1;have i:bK P U=true:=by
    have z:=j.2;split at z
    ·rename_i hh;exact(cH htt hh).1
    ·cases z
   have⟨c1,c2⟩:=aH4 htt hc;have m:=tW (P:=P) (t:=U) q i;have n:=tW (P:=P) (t:=U) u i;have⟨xs,ex,_⟩:=m.1 i;have⟨A,c,_⟩:=n.1 i;split at h
   ·split at h
    ·rename_i r v
     injection h with h;subst h
     have:=lD htt (w:=w) 10 10000 (by omega) U cs ds _ _ r v c1 m n;refine⟨.bool r,fH ho (by rw[ex,c];exact run_eqGuard_agg w _ U x y xs A c2) ?_,by simp[Rep]⟩;rw[ex,c]at this⊢;rw[run_eql_struct,this];rfl
    ·cases h
   ·split at h
    ·rename_i r v
     injection h with h;subst h
     have:=lD htt (w:=w) 10 10000 (by omega) U cs ds _ _ r v c1 m n;refine⟨.bool (!r),fH ho (by rw[ex,c];exact run_eqGuard_agg w _ U x y xs A c2) ?_,by simp[Rep]⟩;rw[ex,c]at this⊢;rw[run_neq_struct,this];rfl
    ·cases h
   ·cases h
 ·cases h
def mH{α:Type}:List PV->(List PV->Option α)->Option α
 |[],k=>k []
 |p::ps,k=>mH ps λqs=>k (p::qs)
theorem cT{α:Type}:∀(l:List PV)(k:List PV->Option α),mH l k=k l
 |[],_=>rfl
 |p::ps,k=>by exact cT ps _
def oM(tt:TT)(a:Nat->Option (Nat×Nat))(s:St)(cells:List PV):List (Nat×Operand)->Option (List PV)
  |[]=>some cells
  |(i,x)::rest=>match a i,opd s x with
    |some (off,n),some p=>bif p.flat&&Nat.beq p.cells.length n&&Nat.ble (off+n) cells.length then oM tt a s (iV cells off p.cells) rest else none
    |_,_=>none
def azN(tt:TT)(fs:List (TypeId×Nat))(i:Nat):Option (Nat×Nat):=
 match fs[i]? with
 |some (t,off)=>match aP tt t with
  |some n=>some (off,n)
  |none=>none
 |none=>none
def arF(tt:TT)(s:St)(T:TypeId)(ps:List (Nat×Operand)):Option PV:=
 match tiK tt T,tiZ tt T with
 |some (.struct fs),some z=>match oM tt (azN tt fs) s (z.map .val) ps with
  |some cs=>mH cs λcs=>some (.agg cs)
  |none=>none
 |some (.arr _ e),some z=>match aP tt e with
  |some n=>match oM tt (λi=>some (i*n,n)) s (z.map .val) ps with
   |some cs=>mH cs λcs=>some (.agg cs)
   |none=>none
  |none=>none
 |_,_=>none
theorem ajJ(off:Nat):∀(a:List Value)(k:Nat)(cs:Array Value),off+k+a.length<=cs.size->((a.zipIdx k).foldl (λcs (x:Value×Nat)=>cs.setIfInBounds (off+x.2) x.1) cs).toList=cs.toList.take (off+k)++a++cs.toList.drop (off+k+a.length)
 |[],k,cs,_=>by simp
 |u::a,k,cs,h=>by
  simp only[zlc]at h
  rw[List.zipIdx_cons,List.foldl_cons,ajJ off a (k+1) _ (by simp;omega)]
  have:=list_seg_step cs.toList (off+k) u a (by simp;omega)
  simp only[Array.toList_setIfInBounds]
  rw[show off+(k+1)=off+k+1 from by omega,this]
  simp
theorem zO{tt:TT}{g:G}{s:St}{a:Nat->Option (Nat×Nat)}{place':Nat->Option (Nat×Nat)}(j:∀i x,a i=some x->place' i=some x){ρ:Operand->Value}:∀(ps:List (Nat×Operand))(cells:List PV)(cs:List PV)(vs:Array Value),
    oM tt a s cells ps=some cs->RepL g cells vs.toList->(∀x∈ps.map (·.2),kC g s x (ρ x))->∃u,Instr.fill place' vs (ps.map λ(i,x)=>(i,ρ x))=some u/\RepL g cs u.toList
  |[],cells,cs,vs,h,hr,_=>by simp[oM]at h;subst h;exact⟨vs,rfl,hr⟩
  |(i,x)::rest,cells,cs,vs,h,hr,hρ=>by
    simp only[oM]at h
    split at h
    case h_2=>cases h
    rename_i off n p hp hx
    cases hb:(p.flat&&Nat.beq p.cells.length n&&Nat.ble (off+n) cells.length)with
    |false=>rw[hb]at h;simp at h
    |true=>
      rw[hb]at h;simp only[zqt]at h;simp only[zba]at hb;obtain⟨⟨m,b⟩,c⟩:=hb;have b:=Nat.eq_of_beq_eq_true b;have c:=Nat.le_of_ble_eq_true c;have⟨m1,w⟩:=(hρ x (by simp) p hx).cells m;have v:=m1.length;have q:=hr.length;have k:(ρ x).cells.size=n:=by rw[<-b];simpa using v
      simp only[zmp,Instr.fill,j i _ hp,k];have f:¬(n≠n||decide (off+n>vs.size))=true:=by simp at q⊢;omega
      rw[zn (by simpa using f)];refine zO j rest (iV cells off p.cells) cs _ h ?_ (λy hy=>hρ y (by simp at hy⊢;exact .inr hy));have:=ajJ off (ρ x).cells.toList 0 vs (by simp at q⊢;omega);have e:((ρ x).cells.zipIdx.foldl (λcs (x:Value×Nat)=>cs.setIfInBounds (off+x.2) x.1) vs).toList=vs.toList.take off++(ρ x).cells.toList++vs.toList.drop (off+p.cells.length):=by
        rw[<-Array.foldl_toList,Array.toList_zipIdx,this];simp[k,b]
      have o:RepL g (iV cells off p.cells) (vs.toList.take off++(ρ x).cells.toList++vs.toList.drop (off+p.cells.length)):=by
        rw[gZ cells off p.cells (by omega)];exact((hr.take off).append m1).append (hr.drop _)
      rw[<-e]at o;exact o
theorem aCV{tt:TT}(h:bI P tt){k:TK}(e:tiK tt t=some k):∀fs,P.underlying t=some (.struct fs)->∀f∈fs.toList,(P.info? f.type).isSome=true:=by
 unfold tiK at e;split at e
 ·rename_i x a z k c hx;have:=oH (h t _ hx);grind
 ·cases e
theorem agF{P:Program}{w:World}:∀(fs:List Field),(∀f∈fs,(P.info? f.type).isSome=true)->
  (fs.mapM λf=>do pure (f.offset,<-sizeOf f.type):Sem (List (Nat×Nat))).run P w= .ok (fs.map λf=>(f.offset,P.cellsOf f.type)) w
 |[],_=>rfl
 |f::fs,h=>by
  have hs:(sizeOf f.type).run P w= .ok (P.cellsOf f.type) w:=aZ (by
   cases hi:P.info? _ with
   |none=>grind
   |some i=>simp[Program.cellsOf,hi])
  have a:=agF (w:=w) fs λg hg=>h g (by grind)
  simp_all
theorem aDj{tt:TT}(htt:bI P tt){ps:List (Nat×Operand)}{p:PV}(ho:o.op= .build U ps.toArray)(h:arF tt s U ps=some p):OpV P o s p:=by
 refine aN λw g ρ _ hρ=>?_;have b:∀x∈ps.map (·.2),kC g s x (ρ x):=λx hx=>hρ x (by rw[ho];simpa[Op.operands]using hx);unfold arF at h;split at h
 ·rename_i fs z hk hz
  split at h
  case h_2=>cases h
  rename_i cs c;rw[cT]at h;injection h with h;subst h
  have⟨a,hu,D⟩:=fJ (aR htt hk).1;have⟨v,k,q⟩:=nH htt hz;have F:∀i x,azN tt fs i=some x->((a.toList.map λf=>(f.offset,P.cellsOf f.type)).toArray[·]?) i=some x:=by
   intro i x hx;unfold azN at hx;split at hx
   ·rename_i t off hi
    split at hx
    ·rename_i n hn
     injection hx with hx;subst hx
     rw[<-D]at hi;simp only[List.getElem?_map]at hi;cases hf:a.toList[i]? with
     |none=>rw[hf]at hi;cases hi
     |some f=>
      rw[hf]at hi;simp at hi;have:=(aQ htt hn).2;have C:a[i]?=some f:=by simpa using hf
      simp[C,hi,this]
    ·cases hx
   ·cases hx
  have j:RepL g (z.map .val) v.cells.toList:=by rw[q];exact RepL.vals z
  have⟨u,y,B⟩:=zO F (ρ:=ρ) ps _ cs v.cells c j b;refine⟨.agg u,?_,by simp only[Rep];exact⟨u.toList,by simp,B⟩⟩;have hm:=agF (P:=P) (w:=w) a.toList (aCV htt hk a hu);have E:(a.mapM λf=>do pure (f.offset,<-sizeOf f.type):Sem (Array (Nat×Nat))).run P w= .ok (a.toList.map λf=>(f.offset,P.cellsOf f.type)).toArray w:=by
   rw[Array.mapM_eq_mapM_toList];simp only[Sem.run_map,hm,Result.andThen_ok]
  have A:Instr.fill (λx=>Option.map (λf=>(f.offset,P.cellsOf f.type)) a[x]?) v.cells (ps.map λx=>(x.fst,ρ x.snd))=some u:=by
   rw[<-y];congr 1;funext x;simp
  simp only[execOp,ho,Instr.build,Sem.run_bind,cI k,run_underlying hu,Result.andThen_ok,E,Sem.run_pure];simp[A]
 ·rename_i n e z hk hz
  split at h
  case h_2=>cases h
  rename_i m hm;split at h
  case h_2=>cases h
  rename_i cs c;rw[cT]at h;injection h with h;subst h
  have hu:=jN (aR htt hk).1;have⟨v,k,q⟩:=nH htt hz;have j:RepL g (z.map .val) v.cells.toList:=by rw[q];exact RepL.vals z
  have⟨u,y,B⟩:=zO (place':=λi=>some (i*m,m)) (λi x hx=>hx) (ρ:=ρ) ps _ cs v.cells c j b;refine⟨.agg u,?_,by simp only[Rep];exact⟨u.toList,by simp,B⟩⟩;simp only[execOp,ho,Instr.build,Sem.run_bind,cI k,run_underlying hu,Result.andThen_ok,aZ (aQ htt hm).1,Sem.run_pure];simp only[List.map_toArray]at y⊢;simp[y]
 ·cases h
def aFt(tt:TT)(cs:List PV)(t off:Nat):Option PV:=
 match lO tt t,aP tt t with
 |some true,some n=>bif Nat.ble (off+n) cs.length then mH (dD cs off n) λds=>some (.agg ds)else none
 |some false,some _=>cs[off]?
 |_,_=>none
theorem aHQ{tt:TT}(htt:bI P tt){w:World}{g:G}{p:PV}(h:aFt tt cs t off=some p){vs:Array Value}(b:RepL g cs vs.toList):
  ∃v,(part t vs off).run P w= .ok v w/\Rep g p v:=by
 unfold aFt at h
 split at h
 ·rename_i n ha hn
  cases hb:Nat.ble (off+n) cs.length with
  |false=>grind
  |true=>
   rw[hb]at h;simp only[zqt,cT]at h;injection h with h;subst h
   have hb:=Nat.le_of_ble_eq_true hb;have⟨v,i,j⟩:=tF (w:=w) (cH htt ha).2 (aQ htt hn).1 b (off:=off) (by simp[dD];omega) (λe=>absurd ((cH htt ha).1.symm.trans e) (by simp));obtain⟨xs,rfl,k⟩:=j.1 (cH htt ha).1;exact⟨_,i,by simp only[Rep];grind⟩
 ·rename_i n ha hn
  have⟨v,c,f⟩:=b.get h;have a:=by simpa using c
  exact⟨v,by simp[part,eB (cH htt ha).1 (cH htt ha).2,a],f⟩
 ·cases h
def aN8(p:PV):Option Nat:=
 match p with
 | .seq rows=>some rows.length
 | .own _ rows=>some rows.length
 | .vec _ _ _ n=>some n
 | .val (.string b)=>some b.size
 | .val (.slice none 0 0)=>some 0
 | .emp=>some 0
 |_=>none
def ayT(tt:TT)(T:TypeId):Bool:=match tiK tt T with|some .str=>true|_=>false
def dM(tt:TT)(T:TypeId):Bool:=match tiK tt T with|some (.slice _)=>true|_=>false
def lenT(tt:TT)(T:TypeId)(p:PV):Option Nat:=
 match p with
 | .val (.string b)=>bif ayT tt T then some b.size else none
 |p=>bif dM tt T then aN8 p else none
def aII(f:Int->Int->Int):List PV->Option PV
 |[.val (.int k a), .val (.int k' b)]=>bif rY k k' then some (.val (.int k (f a b)))else none
 |[.val (.int k a), .val (.int k' b), .val (.int k'' c)]=>bif rY k k'&&rY k k'' then some (.val (.int k (f (f a b) c)))else none
 |_=>none
def pH(s:St):List Operand->Option (List PV)
 |[]=>some []
 |x::xs=>match opd s x,pH s xs with
  |some p,some ps=>some (p::ps)
  |_,_=>none
def aGd(tt:TT)(s:St)(b:Builtin)(args:List Operand)(a:List TypeId):Option PV:=
 match b,args,a with
 | .len,[x],[T]=>match opd s x with
  |some p=>match lenT tt T p with
   |some n=>some (.val (.int .i64 n))
   |none=>none
  |none=>none
 | .max,xs,_=>match pH s xs with|some ps=>aII max ps|none=>none
 | .min,xs,_=>match pH s xs with|some ps=>aII min ps|none=>none
 |_,_,_=>none
def ayH(p:PV)(off:Nat):Option PV:=
 match p with
 | .rp cs=>mH (cs.drop off) λds=>some (.rp ds)
 | .ref id o=>some (.ref id (o+off))
 | .el id sz j o=>some (.el id sz j (o+off))
 |_=>none
def ahS(tt:TT)(s:St):Op->Option PV
 | .move x=>opd s x
 | .assign x=>opd s x
 | .binOp op T x y _=>match opd s x,opd s y with
  |some a,some b=>aLr tt op T a b
  |_,_=>none
 | .unOp .not _ x=>match opd s x with
  |some (.val (.bool b))=>some (.val (.bool (!b)))
  |_=>none
 | .extract x i=>match opd s x with
  |some (.tup cs)=>cs[i]?
  |_=>none
 | .field T x f=>match opd s x,tiK tt T with
  |some (.agg cs),some (.struct fs)=>match fs[f]? with
   |some (t,off)=>aFt tt cs t off
   |none=>none
  |_,_=>none
 | .build T ps=>arF tt s T ps.toList
 | .call ⟨.builtin b,args,ts⟩=>aGd tt s b args.toList ts.toList
 | .makeFunc (.func f) first caps=>match first.toList,pH s caps.toList with
  |[],some ps=>some (.fn f ps)
  |_,_=>none
 | .fieldAddr T x f=>match opd s x,tiK tt T with
  |some p,some (.struct fs)=>match fs[f]? with
   |some (t,off)=>match aP tt t with
    |some (_+1)=>ayH p off
    |_=>none
   |none=>none
  |_,_=>none
 | .load T x=>match opd s x,lO tt T,aP tt T with
  |some (.rp cs),some true,some n=>bif Nat.ble n cs.length then mH (cs.take n) λds=>some (.agg ds)else none
  |some (.rp (c::_)),some false,some _=>some c
  |_,_,_=>none
 |_=>none
theorem RepA.vals{g:G}{b:Nat}:∀{cs:List PV}{off:Nat},RepA g b off cs->∃vs,RepL g cs vs/\∀j v,vs[j]?=some v->bB g.heap b (off+j)=some v
 |[],_,_=>⟨[],rfl,by simp⟩
 |c::cs,off,h=>by
  obtain⟨⟨v,a,e,f⟩,h4⟩:=h
  have⟨vs,k1,k2⟩:=RepA.vals h4
  refine⟨v::vs,by simp only[RepL];grind,λj u hj=>?_⟩
  grind
theorem RepA.drop{g:G}{b:Nat}:∀{cs:List PV}{off:Nat}(k:Nat),RepA g b off cs->RepA g b (off+k) (cs.drop k)
 |_,_,0,h=>‹_›
 |[],_,k+1,_=>‹_›
 |c::cs,off,k+1,h=>by
  have:=RepA.drop k h.2
  grind
theorem RepA.take{g:G}{b:Nat}:∀{cs:List PV}{off:Nat}(k:Nat),RepA g b off cs->RepA g b off (cs.take k)
 |_,_,0,_=>by simp[RepA]
 |[],_,k+1,_=>‹_›
 |c::cs,off,k+1,h=>by
  exact⟨h.1,RepA.take k h.2⟩
theorem nI{w:World}{g:G}(hm:MemOK P st w g){b:Nat}{v:Value}(h:bB g.heap b i=some v):w.cell? ⟨b,i,none⟩=some v:=by
 rw[hm.heap]at h
 simpa
theorem auA{w:World}{g:G}(hm:MemOK P st w g){b:Nat}(h:RepA g b off cs){n:Nat}(ha:bK P U=true)(hn:(P.info? U).map (·.size)=some n)(hl:cs.length=n):
  ∃vs,(loadVar U ⟨b,off,none⟩).run P w= .ok (.agg vs.toArray) w/\RepL g cs vs:=by
 have⟨vs,c,e⟩:=h.vals
 have a:=c.length
 refine⟨vs,?_,c⟩
 have:=run_loadCells_list (P:=P) (w:=w) _ _ λj v hj=>by rw[dA];exact nI hm (e j v hj)
 rw[a,hl]at this
 simp[loadVar,eB ha (rX ha),aZ hn,this]
theorem lY{g:G}{s:St}{ρ:Operand->Value}:∀{xs:List Operand}{ps:List PV},pH s xs=some ps->(∀x∈xs,kC g s x (ρ x))->RepL g ps (xs.map ρ)
 |[],ps,h,_=>by simp[pH]at h;subst h;simp[RepL]
 |x::xs,ps,h,hρ=>by
  simp only[pH]at h
  split at h
  ·rename_i p b hp a
   injection h with h;subst h
   exact⟨_,_,rfl,hρ x (by simp) p hp,lY a λy hy=>hρ y (by grind)⟩
  ·cases h
theorem aJK{tt:TT}(htt:bI P tt){p:PV}{n:Nat}(h:lenT tt U p=some n){g:G}{v:Value}(c:Rep g p v){w:World}:(Builtin.len_ #[U] ty #[v]).run P w= .ok (.int .i64 n) w:=by
 have sl:dM tt U=true->∃e,P.underlying U=some (.slice e):=λhs=>by
  unfold dM at hs
  split at hs
  ·rename_i e f;exact⟨e,cD (aR htt f).1⟩
  ·cases hs
 unfold lenT at h;split at h
 ·rename_i b
  have hv:=aL c;subst hv;cases hs:ayT tt U with
  |false=>rw[hs]at h;simp at h
  |true=>
   rw[hs]at h;simp at h;unfold ayT at hs;split at hs
   ·rename_i f
    have hu:=pA (aR htt f).1;simp[Builtin.len_,run_underlying hu,goInt,h]
   ·cases hs
 ·cases hs:dM tt U with
  |false=>rw[hs]at h;simp at h
  |true=>
   rw[hs]at h;simp only[zqt]at h;have⟨e,hu⟩:=sl hs;unfold aN8 at h;split at h
   ·simp only[Rep]at c;obtain⟨a,cap,rfl,_⟩:=c;injection h with h;subst h;simp[Builtin.len_,run_underlying hu,goInt]
   ·simp only[Rep]at c;have⟨b,cap,sz,_,i,_,h4⟩:=c
    injection h with h;subst h
    rcases h4 with⟨hc,_,rfl⟩|⟨_,rfl,_⟩
    ·rw[hc]at i
     simp[Builtin.len_,run_underlying hu,goInt];omega
    ·simp[Builtin.len_,run_underlying hu,goInt]
   ·simp only[Rep]at c;obtain⟨b,n',cap,_,k,m,_,⟨o,a,rfl⟩|⟨_,rfl⟩⟩:=c<;>injection h with h
    ·rw[show n=0 from by omega];simp[Builtin.len_,run_underlying hu,goInt]
    ·rw[<-h];simp[Builtin.len_,run_underlying hu,goInt]
   ·rename_i b j;exact absurd rfl (j b)
   ·have hv:=aL c;subst hv;injection h with h;subst h;simp[Builtin.len_,run_underlying hu,goInt]
   ·simp only[Rep]at c;obtain⟨a,rfl⟩:=c;injection h with h;subst h;simp[Builtin.len_,run_underlying hu,goInt]
   ·cases h
theorem cE{w:World}{b:Builtin}{args:Array Operand}{a:Array TypeId}{v:Value}(ho:o.op= .call ⟨.builtin b,args,a⟩)(h:(builtin b a o.type (args.map fun| .const _=>true|_=>false) (args.map ρ)).run P w= .ok (.value v) w'):(execOp ρ o).run P w= .ok (.value v) w':=by
 simp only[execOp,ho,Result.andThen_ok]
 exact h
theorem aEz{p:PV}(h:ayH p off=some q){g:G}{x:Value}(a:Rep g p x):∃b o,x= .pointer (some ⟨b,o,none⟩)/\Rep g q (.pointer (some ⟨b,o+off,none⟩)):=by
 unfold ayH at h;split at h
 ·rw[cT]at h
  injection h with h;subst h
  have⟨b,o',e,a⟩:=a;exact⟨b,o',e,by simp only[Rep];exact⟨b,o'+off,rfl,a.drop off⟩⟩
 ·injection h with h;subst h
  obtain⟨b,n,cap,c,rfl⟩:=a;exact⟨b,_,rfl,by simp only[Rep];exact⟨b,n,cap,c,rfl⟩⟩
 ·injection h with h;subst h
  obtain⟨b,n,cap,c,rfl⟩:=a;exact⟨b,_,rfl,by simp only[Rep];grind⟩
 ·cases h
theorem xK{P:Program}{tt:TT}(htt:bI P tt){o:Oper}{s:St}{p:PV}(h:ahS tt s o.op=some p):OpV P o s p:=by
 obtain⟨dst,op,type,pos,after,S⟩:=o;simp only at h;cases op<;>simp only[ahS]at h<;>try(cases h;done)
 case move x=>
  exact aN λw g ρ _ hρ=>⟨ρ x,by simp[execOp],hρ x (by simp[Op.operands]) p h⟩
 case assign x=>
  exact aN λw g ρ _ hρ=>⟨ρ x,by simp[execOp],hρ x (by simp[Op.operands]) p h⟩
 case build T ps=>
  exact aDj htt (ps:=ps.toList) (by simp) h
 case load T x=>
  split at h
  ·rename_i cs n hx ha hn
   cases hb:Nat.ble n cs.length with
   |false=>rw[hb]at h;simp at h
   |true=>
    rw[hb]at h;simp only[zqt,cT]at h;injection h with h;subst h
    refine aN λw g ρ hm hρ=>?_;have j:=hρ x (by simp[Op.operands]) _ hx;simp only[Rep]at j;obtain⟨b,off,e,j⟩:=j;have hb:=Nat.le_of_ble_eq_true hb;obtain⟨vs,A,F⟩:=auA hm (j.take n) (cH htt ha).1 (aQ htt hn).1 (by simp;omega);exact⟨.agg vs.toArray,by simp[execOp,Instr.loadAt,e,Instr.sureAddr,A],by simp only[Rep];exact⟨vs,rfl,F⟩⟩
  ·rename_i c cs n hx ha hn
   injection h with h;subst h
   refine aN λw g ρ hm hρ=>?_;have j:=hρ x (by simp[Op.operands]) _ hx;simp only[Rep,RepA]at j;obtain⟨b,off,e,⟨v,A,_,h3⟩,_⟩:=j;have:=nI hm A;exact⟨v,by simp[execOp,Instr.loadAt,e,Instr.sureAddr,loadVar,eB (cH htt ha).1 (cH htt ha).2,this],h3⟩
  ·cases h
 case binOp op T x y T2=>
  split at h
  ·rename_i a b hx hy
   exact aKH htt rfl hx hy h
  ·cases h
 case unOp op T x=>
  cases op<;>simp only at h<;>try(cases h;done)
  split at h
  ·rename_i b hx
   injection h with h;subst h
   refine aN λw g ρ hm hρ=>?_;have j:=aL (hρ x (by simp[Op.operands]) _ hx);exact⟨.bool (!b),by simp[execOp,j,Op.unary],by simp[Rep]⟩
  ·cases h
 case makeFunc fn first caps=>
  cases fn<;>simp only at h<;>try(cases h;done)
  rename_i f;split at h
  ·rename_i ps hf D
   injection h with h;subst h
   refine aN λw g ρ hm hρ=>?_;have j:=lY D (ρ:=ρ) (g:=g) (λx hx=>hρ x (by simp[Op.operands];exact .inr (by simpa using hx)));have U:first= #[]:=by simpa using hf
   exact⟨.func (.func f) #[] (caps.map ρ),by simp[execOp,Instr.makeFunc,U],by simp only[Rep];exact⟨(caps.toList.map ρ),by rw[<-Array.toList_map],j⟩⟩
  ·cases h
 case fieldAddr T x f=>
  split at h
  ·rename_i q fs hx hk
   split at h
   case h_2=>cases h
   rename_i t off hf;split at h
   case h_2=>cases h
   rename_i m V;obtain⟨u,hu,L⟩:=fJ (aR htt hk).1;rw[<-L]at hf;simp only[List.getElem?_map]at hf;cases z:u.toList[f]? with
   |none=>rw[z]at hf;cases hf
   |some fd=>
    rw[z]at hf;simp at hf;have B:u[f]?=some fd:=by simpa using z
    refine aN λw g ρ hm hρ=>?_;have j:=hρ x (by simp[Op.operands]) _ hx;obtain⟨b,o',e,j⟩:=aEz h j;have W:(sizeOf fd.type).run P w= .ok (m+1) w:=by rw[hf.1];exact aZ (aQ htt V).1
    refine⟨.pointer (some ⟨b,o'+off,none⟩),?_,j⟩;simp[execOp,Instr.fieldAt,underlying,hu,B,e,Instr.sureAddr,fieldPlace,W,dA,hf.2]
  ·cases h
 case field T x f=>
  split at h
  ·rename_i cs fs hx hk
   split at h
   case h_2=>cases h
   rename_i t off hf;obtain⟨u,hu,L⟩:=fJ (aR htt hk).1;rw[<-L]at hf;simp only[List.getElem?_map]at hf;cases z:u.toList[f]? with
   |none=>rw[z]at hf;cases hf
   |some fd=>
    rw[z]at hf;simp at hf;have B:u[f]?=some fd:=by simpa using z
    refine aN λw g ρ hm hρ=>?_;have j:=hρ x (by simp[Op.operands]) _ hx;simp only[Rep]at j;obtain⟨vs,e,j⟩:=j;obtain⟨v,A,F⟩:=aHQ htt (w:=w) h (vs:=vs.toArray) (by simpa using j);rw[<-hf.1,<-hf.2]at A;refine⟨v,?_,F⟩;simp[execOp,Instr.field,underlying,hu,B,e,asAgg,A]
  ·cases h
 case extract x i=>
  split at h
  ·rename_i cs hx
   refine aN λw g ρ hm hρ=>?_;have j:=hρ x (by simp[Op.operands]) _ hx;simp only[Rep]at j;obtain⟨vs,e,j⟩:=j;obtain⟨v,A,F⟩:=j.get h;exact⟨v,by simp[execOp,Instr.extract,e,A],F⟩
  ·cases h
 case call c=>
  obtain⟨E,args,ts⟩:=c;cases E<;>simp only at h<;>try(cases h;done)
  rename_i b;have C:∀(g:G)(ρ:Operand->Value),(∀x∈(Op.call ⟨.builtin b,args,ts⟩).operands,kC g s x (ρ x))->∀x∈args.toList,kC g s x (ρ x):=λg ρ hρ x hx=>
   hρ x (by simp[Op.operands,Call.operands];simpa using hx)
  unfold aGd at h;split at h
  ·rename_i x T Q X
   split at h
   case h_2=>cases h
   rename_i q hq;split at h
   case h_2=>cases h
   rename_i n hn;injection h with h;subst h
   refine aN λw g ρ hm hρ=>?_;have j:=C g ρ hρ x (by rw[Q];simp) _ hq;have ha:args= #[x]:=by apply Array.toList_inj.1;simpa using Q
   have ht:ts= #[T]:=by apply Array.toList_inj.1;simpa using X
   subst ha;subst ht;exact⟨.int .i64 n,cE rfl (by simp[builtin,aJK htt hn j]),by simp[Rep]⟩
  ·split at h
   case h_2=>cases h
   rename_i ps D;refine aN λw g ρ hm hρ=>?_;have j:=lY D (C g ρ hρ);unfold aII at h;split at h
   ·rename_i k a k' b
    obtain⟨args⟩:=args;simp only[RepL]at j;obtain⟨Z,_,H,N,v2,_,I,O,J⟩:=j;subst J;subst I;cases hk:rY k k' with
    |false=>rw[hk]at h;simp at h
    |true=>
     rw[hk]at h;simp at h;subst h;have:=jR hk;subst this;refine⟨.int k (max a b),cE rfl ?_,by simp[Rep]⟩;simp only[List.map_toArray,H,builtin,Builtin.max_,aL N,aL O];simp[Builtin.max2];omega
   ·rename_i k a k' b M c
    obtain⟨args⟩:=args;simp only[RepL]at j;obtain⟨Z,_,H,N,v2,_,I,O,v3,_,J,Y,R⟩:=j;subst R;subst J;subst I;cases hk:(rY k k'&&rY k M)with
    |false=>rw[hk]at h;simp at h
    |true=>
     rw[hk]at h;simp at h;subst h;rw[zba]at hk;have A:=jR hk.1;subst A;have F:=jR hk.2;subst F;refine⟨.int k (max (max a b) c),cE rfl ?_,by simp[Rep]⟩;simp only[List.map_toArray,H,builtin,Builtin.max_,aL N,aL O,aL Y];simp[Builtin.max2];omega
   ·cases h
  ·split at h
   case h_2=>cases h
   rename_i ps D;refine aN λw g ρ hm hρ=>?_;have j:=lY D (C g ρ hρ);unfold aII at h;split at h
   ·rename_i k a k' b
    obtain⟨args⟩:=args;simp only[RepL]at j;obtain⟨Z,_,H,N,v2,_,I,O,J⟩:=j;subst J;subst I;cases hk:rY k k' with
    |false=>rw[hk]at h;simp at h
    |true=>
     rw[hk]at h;simp at h;subst h;have:=jR hk;subst this;refine⟨.int k (min a b),cE rfl ?_,by simp[Rep]⟩;simp only[List.map_toArray,H,builtin,Builtin.min_,aL N,aL O];simp[Builtin.min2];omega
   ·rename_i k a k' b M c
    obtain⟨args⟩:=args;simp only[RepL]at j;obtain⟨Z,_,H,N,v2,_,I,O,v3,_,J,Y,R⟩:=j;subst R;subst J;subst I;cases hk:(rY k k'&&rY k M)with
    |false=>rw[hk]at h;simp at h
    |true=>
     rw[hk]at h;simp at h;subst h;rw[zba]at hk;have A:=jR hk.1;subst A;have F:=jR hk.2;subst F;refine⟨.int k (min (min a b) c),cE rfl ?_,by simp[Rep]⟩;simp only[List.map_toArray,H,builtin,Builtin.min_,aL N,aL O,aL Y];simp[Builtin.min2];omega
   ·cases h
  ·cases h
end
section
def EvS (P:Program) (l:List Oper):List Oper->St->(St->Prop)->Prop
 |[],s,K=>K s
 |o::r,s,K=>WpA P l o s λs'=>EvS P l r s' K
def Ev(P:Program)(l:List Oper)(d:Md)(r:List Oper)(s:St)(K:St->Prop):Prop:=
 match d with
 | .draw z rd=>EvD P l (.draw z rd) r s K
 | .seq=>EvS P l r s K
def cX(d:Md)(l r:List Oper):Bool:=
 match d with
 | .seq=>true
 | .draw z rd=> !mD (l.length-(r.length+1)) z&& !mD (l.length-(r.length+1)) rd
def zG(d:Md)(l r:List Oper):Bool:=
 match d with
 | .seq=>true
 | .draw z rd=> !mD (l.length-(r.length+1)) z&&mD (l.length-(r.length+1)) rd
def jU(d:Md)(l r:List Oper):Bool:=
 match d with
 | .seq=>true
 | .draw z _=>mD (l.length-(r.length+1)) z
section
variable{P:Program}{l:List Oper}{d:Md}{r:List Oper}{s:St}{K:St->Prop}
theorem rU(h:K s):Ev P l d [] s K:=by cases d<;>exact h
theorem fQ{T:Tr}(h:AStep P l o s false T)(ht:cX d l r=true)(k:Ev P l d r (T.app s) K):Ev P l d (o::r) s K:=by
 cases d with
 |draw z rd=>
  simp only[cX,zba,Bool.not_eq_true']at ht;show EvD P l _ _ s K;unfold EvD;simp only[Md.z,Md.r,ht.1,ht.2];exact⟨T,h,k⟩
 |seq=>exactλc a w g lam hs i Q f=>h.sound hs λj w' g' e b=>f _ _ _ _ _ k b
theorem aFB{T:Tr}(h:AStep P l o s true T)(ht:zG d l r=true)(k:Ev P l d r (T.app s) K):Ev P l d (o::r) s K:=by
 cases d with
 |draw z rd=>
  simp only[zG,zba,Bool.not_eq_true']at ht;show EvD P l _ _ s K;unfold EvD;simp only[Md.z,Md.r,ht.1,ht.2];exact⟨T,h,k⟩
 |seq=>exactλc a w g lam hs i Q f=>h.sound hs λj w' g' e b=>f _ _ _ _ _ k b
theorem aNv(h:ZOp P l o s R)(ht:jU d l r=true)(k:∀x,R x->Ev P l d r (s.turn o x) K):Ev P l d (o::r) s K:=by
 cases d with
 |draw z rd=>
  simp only[jU]at ht;show EvD P l _ _ s K;unfold EvD;simp only[Md.z,ht];exact⟨R,h,k⟩
 |seq=>
  intro c a w g lam hs i Q f;refine h s (λ_ _=>rfl) rfl rfl c a w g _ hs _ Q λm j w' g' b ⟨x,hx,e⟩ hs'=>?_;subst e;exact f _ _ _ _ _ (k x hx) hs'
def axQ(F:Fence)(P:Program)(b:Array Oper)(Q:Exit->Act->World->Prop):List Oper->Act->World->Prop
 |[],a,w=>Q .normal a w
 |o::r,a,w=>if Region.wanted o (yielded b a.tmps)then o.wpIn F 0 P a w (axQ F P b Q r) Q else(∀f,o.about P w a.eval=some f->F.fn f)/\axQ F P b Q r (a.put o.dst undef) w
theorem avC{F:Fence}{b:Array Oper}{Q:Exit->Act->World->Prop}:∀(r:List Oper)(k:Nat)(a:Act)(w:World),b.size=k+r.length->(∀j:Nat,r[j]?=b[k+j]?)->axQ F P b Q r a w->wpOpsIn F 0 P b Q (List.range' k r.length) a w
 |[],_,_,_,_,_,h=>h
 |o::r,k,a,w,hs,hr,h=>by
  have h0:=by have:=hr 0;simpa using this.symm
  have c:∀a w,axQ F P b Q r a w->wpOpsIn F 0 P b Q _ a w:=λa w h=>avC r (k+1) a w (by grind) (λj=>by have:=hr (j+1);grind) h
  simp only[zlc,List.range'_succ,wpOpsIn,h0]
  unfold axQ at h
  split
  ·rename_i hw;rw[zp hw]at h;exact Oper.wpIn_mono c h
  grind
theorem avX{F:Fence}{l:List Oper}{id:Nat}{Q:Exit->Act->World->Prop}{a:Act}{w:World}(h:axQ F P l.toArray Q l a w):(Code.region id l.toArray false).wpIn F 0 P Q a w:=by
 refine wpIn_region ?_;have:=avC l 0 a w (by simp) (by simp) h
 simpa[List.range_eq_range']using this
theorem EvS.sound{Q:Exit->St->Prop}:∀(r:List Oper)(s:St),EvS P l r s (Q .normal)->∀c a w g lam,SI P c s a w g lam->
  axQ (FR c.ro) P l.toArray (λe i w'=>∃f g' b,Q e f/\SI P c f i w' g' b) r a w
 |[],s,h,c,a,w,g,lam,hs=>⟨s,g,lam,h,hs⟩
 |o::r,s,h,c,a,w,g,lam,hs=>by
  have:=h c a w g _ hs _ (λe i w'=>∃f g' b,Q e f/\SI P c f i w' g' b)
   λf i w' g' b k j=>EvS.sound r _ k c _ _ _ _ j
  unfold yV at this
  unfold axQ
  split at this
  ·grind
  ·rename_i hw;rw[zn hw];exact⟨λ_ _=>trivial,this⟩
theorem iG{id:Nat}(h:Ev P l .seq l s (Q .normal)):PWp P (.region id l.toArray false) Q s:=
 λc a w g lam hs=>avX (EvS.sound l s h c a w g _ hs)
theorem sC{id:Nat}{z rd:List Nat}(hm:P.follows .mixedOrders=true)(a:azF l (.draw z rd)=true)(b:akQ l s=true)(h:Ev P l (.draw z rd) l s (Q .normal)):PWp P (.region id l.toArray true) Q s:=
 aFr hm a b h
theorem cA{s:St}(x:Operand):opd (s.sst st) x=opd s x:=rfl
theorem yB{s:St}{st:aD}:∀(xs:List Operand),pH (s.sst st) xs=pH s xs
 |[]=>rfl
 |x::xs=>by simp only[pH,cA,yB _]
theorem abL{tt:TT}{a:Nat->Option (Nat×Nat)}{s:St}{st:aD}:∀(ps:List (Nat×Operand))(cells:List PV),oM tt a (s.sst st) cells ps=oM tt a s cells ps
 |[],_=>rfl
 |(i,x)::rest,cells=>by simp only[oM,cA,abL _]
theorem auG{tt:TT}{s:St}(op:Op):ahS tt (s.sst st) op=ahS tt s op:=by
 have e:opd (s.sst st)=opd s:=funext cA;have b:pH (s.sst st)=pH s:=funext yB;have c:∀a cells ps,oM tt _ (s.sst st) _ ps=oM _ a s cells _:=λ_ _ _=>abL _ _
 delta ahS arF aGd
 simp_all
def opl :Op->List Operand
 | .move x| .assign x=>[x]
 | .binOp _ _ x y _=>[x,y]
 | .unOp _ _ x=>[x]
 | .extract x _=>[x]
 | .field _ x _=>[x]
 | .fieldAddr _ x _=>[x]
 | .load _ x=>[x]
 | .convert _ _ x=>[x]
 | .indexAddr _ x y| .index _ x y=>[x,y]
 | .build _ ps| .buildSlice _ _ ps=>ps.toList.map (·.2)
 | .call ⟨.builtin _,args,_⟩=>args.toList
 | .call ⟨.value f,args,_⟩=>f::args.toList
 | .makeFunc _ _ caps=>caps.toList
 |op=>op.operands.toList
theorem aO{op:Op}(h0:∀fn a c,op= .makeFunc fn a c->a= #[]){x:Operand}(h:x∈op.operands):x∈opl op:=by
 cases op<;>simp only[Op.operands,opl]at h⊢ <;>try first|simp at h;done|(simpa using h)
 case call c=>
  have⟨b,args,e⟩:=c;cases b<;>simp[Call.operands]at h⊢ <;>simpa using h
 grind
def kE(s:St):Operand->Bool
 | .tmp t=>(s.env t).1
 |_=>true
def bS(s:St):List Operand->Bool
 |[]=>true
 |x::xs=>kE s x&&bS s xs
theorem gB{x:Operand}:eQ s x↔kE s x=true:=by cases x<;>simp[eQ,kE]
theorem kZ :∀{xs:List Operand},bS s xs=true->∀x∈xs,eQ s x
 |[],_,x,hx=>by grind
 |y::xs,h,x,hx=>by
  simp only[bS,zba]at h
  rcases zmc.1 hx with rfl|hx
  ·exact gB.2 h.1
  ·exact kZ h.2 x hx
def lC(s:St)(w:Bool):List Operand->Prop
 |[]=>True
 |x::xs=>(w=true->kE s x=true)/\lC s w xs
theorem rL{w:Bool}(hw:w=true):∀{xs:List Operand},lC s w xs->∀x∈xs,eQ s x
 |[],_,x,hx=>by grind
 |y::xs,h,x,hx=>by
  rcases zmc.1 hx with rfl|hx
  ·exact gB.2 (h.1 hw)
  ·exact rL hw h.2 x hx
theorem wN{tt:TT}{op:Op}{p:PV}(h:ahS tt s op=some p):∀fn a c,op= .makeFunc fn a c->a= #[]:=by
 simp only[ahS]at h
 grind
theorem aCH{b:Bool}(h:gw w x b=true):w=true:=by cases w<;>(trivial)
theorem aOB(h:gw w x true=true):w=true/\x=true:=by cases w<;>simp_all[gw]
variable{tt:TT}{t:Nat}{op:Op}{ty:TypeId}{pos:String}{after:Array Edge}{gd:Option (Nat×Bool)}
theorem jL(htt:bI P tt){p:PV}(h:ahS tt s op=some p)(hf:bS s (opl op)=true)(hd:Nat.blt t s.n=true)(ht:cX d l r=true)(k:Ev P l d r (s.pv t p) K):Ev P l d (⟨some t,op,ty,pos,after,none⟩::r) s K:=
 fQ (.val _ _ p rfl hd (λ_ x hx=>kZ hf x (aO (wN h) hx)) λ_ st'=>xK htt (by rw[auG];exact h)) ht k
theorem xD{p:PV}(hv:∀st',OpV P ⟨some t,op,ty,pos,after,none⟩ (s.sst st') p)(hm:∀x∈op.operands,x∈opl op)(hf:bS s (opl op)=true)(hd:Nat.blt t s.n=true)(ht:cX d l r=true)(k:Ev P l d r (s.pv t p) K):Ev P l d (⟨some t,op,ty,pos,after,none⟩::r) s K:=
 fQ (.val _ _ p rfl hd (λ_ x hx=>kZ hf x (hm x hx)) λ_=>hv) ht k
theorem aJU(htt:bI P tt){p:PV}(hw:bG l ⟨some t,op,ty,pos,after,gd⟩ s=some w)(h:ahS tt s op=some p)(hf:lC s w (opl op))(hd:Nat.blt t s.n=true)(ht:cX d l r=true)(k:Ev P l d r (s.put (some t) w (.pv p)) K):
  Ev P l d (⟨some t,op,ty,pos,after,gd⟩::r) s K:=
 fQ (.val _ w p hw hd (λa x hx=>rL a hf x (aO (wN h) hx)) λ_ st'=>xK htt (by rw[auG];exact h)) ht k
theorem dC{p:PV}(hw:bG l ⟨some t,op,ty,pos,after,gd⟩ s=some w)(hv:w=true->∀st',OpV P ⟨some t,op,ty,pos,after,gd⟩ (s.sst st') p)(hm:∀x∈op.operands,x∈opl op)(hf:lC s w (opl op))(hd:Nat.blt t s.n=true)(ht:cX d l r=true)(k:Ev P l d r (s.put (some t) w (.pv p)) K):Ev P l d (⟨some t,op,ty,pos,after,gd⟩::r) s K:=
 fQ (.val _ w p hw hd (λa x hx=>rL a hf x (hm x hx)) hv) ht k
theorem aMU{wt:Bool}{a:Operand}(hw:bG l ⟨some t, .pick (.tmp u) a (.const (.bool false)),ty,pos,after,gd⟩ s=some w)(hu:s.env u=(wt, .pv (.val (.bool x))))(ha:opd s a=some (.val (.bool y)))(c:w=true->wt=true)(e:w=true->x=true->kE s a=true)(hd:Nat.blt t s.n=true)(ht:cX d l r=true)(k:Ev P l d r (s.put (some t) w (.pv (.val (.bool (x&&y))))) K):Ev P l d (⟨some t, .pick (.tmp u) a (.const (.bool false)),ty,pos,after,gd⟩::r) s K:=
 fQ (.pick w u a _ _ x _ hw hd rfl hu c (λb hx=>⟨gB.2 (e b hx),by grind⟩) λ_ hx=>⟨trivial,by rw[hx];rfl⟩) ht k
theorem aN0{wt:Bool}{b:Operand}(hw:bG l ⟨some t, .pick (.tmp u) (.const (.bool true)) b,ty,pos,after,gd⟩ s=some w)(hu:s.env u=(wt, .pv (.val (.bool x))))(hb:opd s b=some (.val (.bool y)))(c:w=true->wt=true)(e:w=true->x=false->kE s b=true)(hd:Nat.blt t s.n=true)(ht:cX d l r=true)(k:Ev P l d r (s.put (some t) w (.pv (.val (.bool (x||y))))) K):Ev P l d (⟨some t, .pick (.tmp u) (.const (.bool true)) b,ty,pos,after,gd⟩::r) s K:=
 fQ (.pick w u _ b _ x _ hw hd rfl hu c (λ_ hx=>⟨trivial,by rw[hx];rfl⟩) λa hx=>⟨gB.2 (e a hx),by grind⟩) ht k
def aIy(tt:TT)(s:St):Op->Option (Bool×Nat×Nat)
  | .fieldAddr T (.tmp x) f=>match s.env x with
    |(w, .adr t off)=>match tiK tt T with
      |some (.struct fs)=>match fs[f]? with
        |some (ft,o)=>match aP tt ft with
          |some (_+1)=>some (w,t,off+o)
          |_=>none
        |none=>none
      |_=>none
    |_=>none
  |_=>none
theorem aJF(htt:bI P tt){x:Bool×Nat×Nat}(h:aIy tt s op=some x):wT P s op=some x:=by
 unfold aIy at h;split at h
 ·rename_i T x f
  split at h
  ·rename_i w t off hx
   split at h
   ·rename_i fs hk
    split at h
    ·rename_i g o hf
     split at h
     ·rename_i m hm
      have⟨a,hu,e⟩:=fJ (aR htt hk).1;cases c:a.toList[f]? with
      |none=>grind
      |some fd=>
       have b:=by simpa using c
       have:=(aQ htt hm).2;simp only[wT,hx,hu,b]
       grind
     ·cases h
    ·cases h
   ·cases h
  ·cases h
 ·cases h
theorem aG3(htt:bI P tt){wx:Bool}{x f:Nat}(hw:bG l ⟨some t, .fieldAddr U (.tmp x) f,ty,pos,after,gd⟩ s=some w)(h:aIy tt s (.fieldAddr U (.tmp x) f)=some (wx,u,off))(a:w=true->wx=true)(hd:Nat.blt t s.n=true)(ht:cX d l r=true)(k:Ev P l d r (s.put (some t) w (.adr u off)) K):Ev P l d (⟨some t, .fieldAddr U (.tmp x) f,ty,pos,after,gd⟩::r) s K:=
 fQ (.adr w _ u _ hw hd (aJF htt h) a) ht k
def nJ(tt:TT)(T:TypeId)(cs:List PV)(off:Nat):Option PV:=
 match lO tt T,aP tt T with
 |some true,some n=>bif Nat.ble (off+n) cs.length then mH (dD cs off n) λds=>some (.agg ds)else none
 |some false,some _=>cs[off]?
 |_,_=>none
theorem aCP(htt:bI P tt){wx:Bool}{x:Nat}{T':TypeId}{p:PV}(hw:bG l ⟨some t, .load U (.tmp x),ty,pos,after,gd⟩ s=some w)(hx:s.env x=(wx, .adr u off))(hL:s.L u=some (T',cs))(h:nJ tt U cs off=some p)(a:w=true->wx=true)(hd:Nat.blt t s.n=true)(ht:cX d l r=true)(k:Ev P l d r (s.put (some t) w (.pv p)) K):Ev P l d (⟨some t, .load U (.tmp x),ty,pos,after,gd⟩::r) s K:=by
 unfold nJ at h
 split at h
 ·rename_i n ha hn
  cases hb:Nat.ble (off+n) cs.length with
  |false=>grind
  |true=>
   rw[hb]at h;simp only[cT]at h;injection h with h;subst h
   exact fQ (.loadA w _ U x u _ _ cs n hw hd rfl hx a hL (cH htt ha).1 (aQ htt hn).1 (Nat.le_of_ble_eq_true hb)) ht k
 ·rename_i n ha hn
  exact fQ (.load1 w _ U x u _ _ _ p hw hd rfl hx a hL (cH htt ha).1 (cH htt ha).2 h) ht k
 ·cases h
def aHO(tt:TT)(T:TypeId):Option (List PV):=match tiZ tt T with|some z=>mH (z.map .val) some|none=>none
theorem awQ(htt:bI P tt)(h:aHO tt U=some cs)(hd:Nat.blt t s.n=true)(had:s.ad t=false)(ht:cX d l r=true)(k:Ev P l d r (s.var t U cs) K):Ev P l d (⟨some t, .alloc U,ty,pos,after,none⟩::r) s K:=by
 unfold aHO at h;split at h
 ·rename_i z hz
  rw[cT]at h;injection h with h;subst h
  have⟨v,a,b⟩:=nH htt hz;refine fQ (.alloc t U v rfl rfl hd had rfl a) ht ?_;rw[b];exact k
 ·cases h
def aG8 :PV->List PV
 | .agg cs=>cs
 |p=>[p]
theorem alY(p:PV):aG8 p=p.cells:=rfl
def aEA(s:St)(x:Operand):Option (List PV):=
 match opd s x with
 |some p=>bif p.flat then mH (aG8 p) some else none
 |none=>none
theorem aeZ{x:Operand}(h:aEA s x=some cs):∃p,opd s x=some p/\p.flat=true/\cs=p.cells:=by
 unfold aEA at h;split at h
 ·rename_i p hp
  cases hf:p.flat with
  |false=>grind
  |true=>
   rw[hf]at h;simp only[cT]at h;injection h with h
   exact⟨p,hp,hf,by rw[<-h,alY]⟩
 ·cases h
theorem aMW{x:Operand}(h:aEA s x=some cs)(hf:kE s x=true)(hd:Nat.blt t s.n=true)(had:s.ad t=false)(ht:cX d l r=true)(k:Ev P l d r (s.var t U cs) K):Ev P l d (⟨some t, .box U x,ty,pos,after,none⟩::r) s K:=by
 obtain⟨p,a,b,rfl⟩:=aeZ h;exact fQ (.box t U x p rfl rfl hd had rfl (gB.2 hf) a b) ht k
def mI(tt:TT)(s:St)(T:TypeId)(y:Operand)(cs:List PV)(off:Nat):Option (List PV):=
 match aEA s y,aP tt T with
 |some ps,some n=>bif Nat.beq ps.length n&&Nat.ble (off+n) cs.length then mH (iV cs off ps) some else none
 |_,_=>none
def St.setv(s:St)(u:Nat)(T:TypeId)(cs:List PV):St:={s with L:=upd s.L u (some (T,cs))}
theorem auD(htt:bI P tt){x:Nat}{y:Operand}{T':TypeId}{a:List PV}(hx:s.env x=(true, .adr u off))(hL:s.L u=some (T',cs))(h:mI tt s U y cs off=some a)(hf:kE s y=true)(ht:cX d l r=true)(k:Ev P l d r (s.setv u T' a) K):Ev P l d (⟨none, .store U (.tmp x) y,ty,pos,after,none⟩::r) s K:=by
 unfold mI at h
 split at h
 ·rename_i ps n hp hn
  obtain⟨p,c,e,rfl⟩:=aeZ hp;cases hb:(Nat.beq p.cells.length n&&Nat.ble (off+n) cs.length)with
  |false=>grind
  |true=>
   rw[hb]at h;simp only[cT]at h;injection h with h;subst h
   rw[zba]at hb;have b:=Nat.eq_of_beq_eq_true hb.1;have f:=Nat.le_of_ble_eq_true hb.2;exact fQ (.store U x y u _ _ _ p rfl rfl rfl hx hL (gB.2 hf) c e (by rw[b];exact(aQ htt hn).1) (by omega)) ht k
 ·cases h
end
end
section
def Wk(p q:PV):Prop:=∀g v,Rep g p v->Rep g q v
theorem Wk.refl(p:PV):Wk p p:=λ_ _ h=>h
theorem zwr(p:PV):Wk p p:=Wk.refl p
theorem Wk.own(id:Nat)(rows:List (List PV)):Wk (.own id rows) (.seq rows):=λg v h=>by
 simp only[Rep]at h⊢
 grind
theorem Wk.nil :Wk (.val (.slice none 0 0)) (.seq []):=λg v h=>by
 have:=aL h;subst this
 simp only[Rep]
 simp
theorem Wk.trans{p r:PV}(h:Wk p q)(k:Wk q r):Wk p r:=λg v e=>k g v (h g v e)
inductive WkL :List PV->List PV->Prop
 |nil:WkL [] []
 |cons {p q:PV} {ps qs:List PV} (h:Wk p q) (k:WkL ps qs):WkL (p::ps) (q::qs)
theorem WkL.rep{g:G}(h:WkL ps qs):∀{vs:List Value},RepL g ps vs->RepL g qs vs:=by
 induction h with
 |nil=>simp
 |cons h _ ih=>
  intro vs e;obtain⟨v,a,rfl,b,c⟩:=e;exact⟨v,a,rfl,h _ _ b,ih c⟩
theorem WkL.refl :∀(ps:List PV),WkL ps ps
 |[]=> .nil
 |p::ps=> .cons (Wk.refl p) (WkL.refl _)
theorem Wk.agg(h:WkL ps qs):Wk (.agg ps) (.agg qs):=λg v e=>by
 have⟨vs,a,b⟩:=e
 exact⟨vs,a,h.rep b⟩
theorem Wk.tup(h:WkL ps qs):Wk (.tup ps) (.tup qs):=λg v e=>by
 have⟨vs,a,b⟩:=e
 exact⟨vs,a,h.rep b⟩
def fT :Nat->List PV->St->St
 |_,[],s=>s
 |i,p::ps,s=>fT (i+1) ps (s.pv i p)
def fS(tt:TT)(s:St):ResultVar->Option PV
  | .tmp t=>match s.env t with
    |(true, .pv p)=>some p
    |_=>none
  | .cell t T=>match s.env t with
    |(true, .adr u off)=>match s.L u with
      |some (_,cs)=>nJ tt T cs off
      |none=>none
    |_=>none
def abF(tt:TT)(s:St):List ResultVar->Option (List PV)
 |[]=>some []
 |x::xs=>match fS tt s x,abF tt s xs with
  |some p,some ps=>some (p::ps)
  |_,_=>none
def aES(tt:TT)(s:St)(xs:List ResultVar):Option PV:=
 match abF tt s xs with
 |some [p]=>some p
 |some ps=>some (.tup ps)
 |none=>none
def aOq(tt:TT)(xs:List ResultVar)(R:PV->aD->Prop):Exit->St->Prop
 | .normal,s| .ret,s=>∃p q st2,aES tt s xs=some p/\Wk p q/\StSub st2 s.st/\R q st2
 |_,_=>False
section
variable{P:Program}{tt:TT}
def ajK(tmps:Array Value):ResultVar->Sem Value
 | .tmp t=>pure (tmps.getD t undef)
 | .cell u T=>do loadVar T (<-asAddr (tmps.getD u undef))
theorem aA9(fn:Func)(tmps:Array Value):results fn tmps=(fn.results.mapM (ajK tmps)>>=λvs=>pure (if h:vs.size=1 then vs[0]else .tuple vs)):=rfl
theorem aFg(htt:bI P tt){a:Act}{w:World}{g:G}{lam:Nat->Nat}(hs:SI P c s a w g lam){x:ResultVar}{p:PV}(h:fS tt s x=some p):
  ∃v,(ajK a.tmps x).run P w= .ok v w/\Rep g p v:=by
 cases x with
 |tmp t=>
  simp only[fS]at h;split at h
  ·rename_i q hq
   injection h with h;subst h
   have:=hs.env t;rw[hq]at this;exact⟨_,rfl,this⟩
  ·cases h
 |cell u T=>
  simp only[fS]at h;split at h
  ·rename_i t off hq
   split at h
   ·rename_i T' cs hL
    have o:=hs.env u;rw[hq]at o;have f:a.tmps.getD u undef= .pointer (some ⟨lam t,off,none⟩):=o;obtain⟨vs,k1,k2, -⟩:=hs.box t T' cs hL;rw[hs.mem.heap]at k1;unfold nJ at h;split at h
    ·rename_i n ha hn
     cases hb:Nat.ble (off+n) cs.length with
     |false=>rw[hb]at h;simp at h
     |true=>
      rw[hb]at h;simp only[zqt,cT]at h;injection h with h;subst h
      have hc:=Nat.le_of_ble_eq_true hb;have A:=(k2.drop off).take n;have i:=k2.length;have m:((vs.toList.drop off).take n).length=n:=by simp at i⊢;omega
      have b:=run_loadCells_list (P:=P) (w:=w) ⟨lam t,off,none⟩ ((vs.toList.drop off).take n) (λj v hj=>by
       have k:j<n:=by grind
       rw[dA,dV k1]
       simpa[List.getElem?_take,k,List.getElem?_drop]using hj)
      rw[m]at b;refine⟨.agg ((vs.toList.drop off).take n).toArray,?_,by simp only[Rep];exact⟨_,rfl,A⟩⟩;simp only[ajK,f,asAddr,Sem.run_bind,Sem.run_pure,Result.andThen_ok];simp[loadVar,eB (cH htt ha).1 (cH htt ha).2,aZ (aQ htt hn).1,b]
    ·rename_i n ha hn
     have⟨v,y,z⟩:=k2.get h;refine⟨v,?_,z⟩;have e:w.cell? ⟨lam t,off,none⟩=some v:=by rw[dV k1];simpa using y
     simp only[ajK,f,asAddr,Sem.run_bind,Sem.run_pure,Result.andThen_ok];simp[loadVar,eB (cH htt ha).1 (cH htt ha).2,e]
    ·cases h
   ·cases h
  ·cases h
theorem alW(htt:bI P tt){c:Ctx}{s:St}{a:Act}{w:World}{g:G}{lam:Nat->Nat}(hs:SI P c s a w g lam):∀{xs:List ResultVar}{ps:List PV},abF tt s xs=some ps->
  ∃vs,(xs.mapM (ajK a.tmps)).run P w= .ok vs w/\RepL g ps vs
 |[],ps,h=>by simp[abF]at h;subst h;exact⟨[],rfl,rfl⟩
 |x::xs,ps,h=>by
  simp only[abF]at h
  split at h
  ·rename_i p e hp b
   injection h with h;subst h
   have⟨v,f,i⟩:=aFg htt hs hp;have⟨vs,j,h4⟩:=alW htt hs b;refine⟨v::vs,?_,by simp only[RepL];grind⟩;simp_all
  ·cases h
theorem aLU(htt:bI P tt){a:Act}{w:World}{g:G}{lam:Nat->Nat}(hs:SI P c s a w g lam){fn:Func}{p:PV}(h:aES tt s fn.results.toList=some p):
  ∃v,(results fn a.tmps).run P w= .ok v w/\Rep g p v:=by
 unfold aES at h
 have key:∀ps,abF tt s fn.results.toList=some ps->∃vs,RepL g ps vs/\(results fn a.tmps).run P w= .ok (if h:vs.length=1 then vs[0]else .tuple vs.toArray) w:=by
  intro ps b;have⟨vs,k,f⟩:=alW htt hs b;refine⟨vs,f,?_⟩;rw[aA9,Array.mapM_eq_mapM_toList];simp_all
 split at h
 ·rename_i q hq
  injection h with h;subst h
  have⟨vs,f,i⟩:=key _ hq;obtain⟨v,rfl,h4⟩:=nF f
  grind
 ·rename_i ps j b
  injection h with h;subst h
  have⟨vs,f,i⟩:=key _ b;have hl:vs.length≠1:=by
   intro e;have:=f.length;rw[e]at this
   match ps,this with
   |[q],_=>exact j q rfl
  rw[dif_neg hl]at i;exact⟨_,i,by simp only[Rep];exact⟨vs,rfl,f⟩⟩
 ·cases h
theorem rD :∀(ps:List PV)(i:Nat)(s:St)(t:Nat),(fT i ps s).env t=match ps[t-i]? with|some p=>if i<=t then(true, .pv p)else s.env t|none=>s.env t
 |[],i,s,t=>rfl
 |p::ps,i,s,t=>by
  simp only[fT]
  rw[rD ps (i+1) (s.pv i p) t]
  have a:(s.pv i p).env t=if t=i then(true, .pv p)else s.env t:=by
   show upd s.env i _ t=_;by_cases h:t=i
   ·subst h;rw[aA,zp rfl]
   ·rw[aB h,zn h]
  grind
theorem wF :∀(ps:List PV)(i:Nat)(s:St),(fT i ps s).L=s.L/\(fT i ps s).ad=s.ad/\(fT i ps s).st=s.st/\(fT i ps s).n=s.n/\(fT i ps s).top=s.top
 |[],_,_=>⟨rfl,rfl,rfl,rfl,rfl⟩
 |p::ps,i,s=>wF ps _ _
theorem aGw{w:World}{g:G}(hm:MemOK P st w g){D:Nat}{o:Obj}(ho:aHT o=true)(n:g.heap[D]?=some (.deferred (some []))):
  MemOK P st (w.putObj D o) {g with heap:=(w.putObj D o).heap}/\Le g {g with heap:=(w.putObj D o).heap}:=by
 have b:w.heap[D]?=some (.deferred (some [])):=by rw[<-hm.heap];exact n
 have m:=bQ b
 have old:∀k,k≠D->(w.putObj D o).heap[k]?=w.heap[k]?:=λk hk=>World.putObj_heap_other hk
 have new:(w.putObj D o).heap[D]?=some o:=World.putObj_heap_same m
 have j:∀k,g.fm k->k≠D:=λk hk e=>by
  have⟨c,a,h,_⟩:=hm.fmm k hk
  rw[e,b]at h;cases h
 have f:Le g {g with heap:=(w.putObj D o).heap}:=by
  refine⟨λ_ _ h=>h,λ_=>znr _,λk i hi=>?_,λk hk=>⟨hk,?_⟩⟩
  ·rw[hm.heap]
   by_cases hk:k=D
   ·subst hk
    simp only[bB,new,b];cases o<;>simp[aHT]at ho<;>rfl
   ·simp only[bB,old k hk]
  ·show(w.putObj D o).heap[k]?=g.heap[k]?
   rw[hm.heap,old k (j k hk)]
 refine⟨⟨rfl,λid o' e=>?_,hm.inj,λk h=>by rw[World.putObj_size];exact hm.lt k h,λk h=>?_,hm.fin⟩,f⟩
 ·refine(hm.obj id o' e).keep f λk hk=>⟨?_,rfl,Iff.rfl⟩
  show(w.putObj D o).heap[k]?=g.heap[k]?;rw[hm.heap];exact old k λh=>uJ hm n ⟨id,by rw[e];simp,h▸hk⟩
 ·have⟨c,a,e,hs⟩:=hm.fmm k h
  grind
theorem SI.shut{a:Act}{w:World}{g:G}{lam:Nat->Nat}(hs:SI P c s a w g lam){D:Nat}(ha:a.defers=(D::j).map wQ):
  (Instr.takeDeferred D).run P w= .ok [] (w.putObj D (.deferred none))/\SI P c s {a with defers:=j.map wQ} (w.putObj D (.deferred none)) {g with heap:=(w.putObj D (.deferred none)).heap} lam:=by
 have⟨z,A,q,u⟩:=hs.defers
 have i:∀{x y:List Nat},x.map wQ=y.map wQ->x=y:=fun{x y} e=>List.map_inj_right (λa b h=>by simp only[wQ,Deferred.mk.injEq,Target.collected.injEq]at h;exact h.1)|>.1 e
 have:=i (ha.symm.trans A)
 subst this
 have⟨k,H⟩:=u D (by simp)
 have m:w.heap[D]?=some (.deferred (some [])):=by rw[<-hs.mem.heap];exact k
 refine⟨run_takeDeferred m,?_⟩
 have⟨m1,p⟩:=aGw (o:= .deferred none) hs.mem rfl k
 exact{
  mem:=m1
  le:=hs.le.trans p
  frame:=hs.frame.trans (B':=λb=>b=D) ⟨rfl,⟨rfl,znr _⟩,rfl,by simp,λb hb f=>⟨World.putObj_heap_other f,rfl,Iff.rfl⟩⟩ λb hb e=>by subst e;omega
  blk:=hs.blk
  env:=λt=>(hs.env t).mono p
  box:=λt T cs e=>by
   have⟨vs,k1,k2,B,C,F⟩:=hs.box t T cs e
   refine⟨vs,?_,RepL.mono p _ _ k2,B,C,F⟩
   rw[World.putObj_heap_other (λh=>by rw[h,k]at k1;cases k1),<-hs.mem.heap];exact k1
  inj:=hs.inj
  ad:=hs.ad
  adL:=hs.adL
  defers:=⟨j,rfl,(List.nodup_cons.1 q).2,λE v=>⟨by
   have f:E≠D:=λh=>(List.nodup_cons.1 q).1 (by rw[<-h];exact v)
   rw[World.putObj_heap_other f,<-hs.mem.heap];grind,(u E (zmm _ v)).2⟩⟩
  top:=hs.top
  n:=hs.n}
theorem SI.leaves{fn:Func}{c:Ctx}{s:St}{lam:Nat->Nat}{R:Ending->World->Prop}:∀(f:List Nat){a:Act}{w:World}{g:G},a.defers=f.map wQ->SI P c s a w g lam->
  (∀w' g',SI P c s {a with defers:=[]} w' g' lam->∃v,(results fn a.tmps).run P w'= .ok v w'/\R (.returned v) w')->LeavesInM Fence.wide 0 P fn a.tmps R a.defers .returning w
 |[],a,w,g,ha,hs,h=>by
  rw[ha]
  have⟨v,b,e⟩:=h w g {hs with defers:=⟨[],rfl,List.nodup_nil,λ_ h=>by grind⟩}
  exact⟨v,b,e⟩
 |D::f,a,w,g,ha,hs,h=>by
  have⟨b,e⟩:=hs.shut ha
  rw[ha]
  exact⟨by simp, .inl ⟨D,_,rfl,b,SI.leaves _ rfl e h⟩⟩
theorem aLf(htt:bI P tt){f:FuncId}{fn:Func}{x:Code}{R:PV->aD->Prop}{n:Nat}{xs:List ResultVar}(hf:P.funcs[f]?=some fn)(hc:jB P f=true)(hb:fn.body=some x)(hn:fn.ntmps=n)(hx:fn.results.toList=xs)(i:Nat.ble args.length n=true)(h:PWp P x (aOq tt xs R) (fT 0 args (St.nil n st))):PC P f args st R:=by
 refine⟨hc,λw g vs hm B=>?_⟩
 have i:=Nat.le_of_ble_eq_true i
 have A:=B.length
 refine callsIn_wide.1 (callsIn_of_wp_marks (F:=Fence.wide) (n:=0) hf hb trivial ?_)
 have⟨m,Q,C,L,M⟩:=wF args 0 (St.nil n st)
 have k:SI P ⟨w,g,Blocks st g,none⟩ (fT 0 args (St.nil n st)) {tmps:=vs.toArray++Array.replicate (fn.ntmps-vs.toArray.size) undef,defers:=[]} w g (λ_=>0):={
  mem:=by rw[C];exact hm
  le:=Le.refl g
  frame:=Frame.refl _ w g
  blk:=λb h=>by rw[C]at h;exact .inl h
  env:=λt=>by
   rw[rD]
   simp only[Nat.sub_zero,Nat.zero_le,if_true]
   cases hp:args[t]? with
   |none=>simp[St.nil,EntOK,Rep]
   |some p=>
    have⟨v,G,H⟩:=B.get hp;have j:t<vs.length:=by grind
    simp only[EntOK];have:(vs.toArray++Array.replicate (fn.ntmps-vs.toArray.size) undef)[t]?=some v:=by
     rw[Array.getElem?_append_left (by simpa using j)];simpa using G
    simp only[Array.getD_eq_getD_getElem?,this];exact H
  box:=λt T cs e=>by rw[m]at e;cases e
  inj:=λt S e=>by rw[m]at e;exact absurd rfl e
  ad:=λt b u off e=>by
   rw[rD]at e
   simp only[Nat.sub_zero,Nat.zero_le,if_true]at e
   cases hp:args[t]?<;>rw[hp]at e<;>cases e
  adL:=λt e=>by rw[m]at e;exact absurd rfl e
  defers:=⟨[],rfl,List.nodup_nil,λ_ h=>by cases h⟩
  top:=by rw[M];rfl
  n:=by rw[L];simp[St.nil];omega}
 refine wpIn_mono (h _ _ _ _ _ k) ?_
 rintro e o w' ⟨s',g',lam',hq,hs'⟩
 have fin:(∃p q st2,aES tt s' xs=some p/\Wk p q/\StSub st2 s'.st/\R q st2)->LeavesInM Fence.wide 0 P fn o.tmps (λe w'=>∃D r st' a,e=Ending.returned D/\R r st'/\Rep a r D/\MemOK P st' w' a/\Le g a/\Frame (Blocks st g) w g w' a/\∀b,Blocks st' a b->Blocks st g b\/w.heap.size<=b) o.defers .returning w':=by
  rintro⟨p,q,st2,y,J,z,h4⟩;rw[<-hx]at y;have⟨E,hd,_⟩:=hs'.defers;refine hs'.leaves E hd λU I c=>?_;have⟨v,N,O⟩:=aLU htt c y;exact⟨v,N,v,q,st2,I,rfl,h4,J _ _ O,c.mem.sub z,c.le,c.frame,λb hb=>c.blk b (hb.sub z)⟩
 cases e with
 |normal=>exact fin hq
 |ret=>exact fin hq
 |_=>exact hq.elim
theorem avK{P:Program}{w:World}{args:Array Operand}{g:Array TypeId}{a:FuncId}(ho:o.op= .call ⟨.value f,args,g⟩)(hf:ρ f= .func (.func a) #[] caps)(hc:jB P a=true):
    (execOp ρ o).run P w= .ok (.enter a (args.map ρ++caps)) w:=by
  unfold jB at hc
  split at hc
  · rename_i fn b
    have c :(fn.name == "runtime.NumGoroutine") = false :=by grind
    have e:fn.body.isNone=false:=by simp_all
    simp only[execOp,ho,resolve,hf,Deferred.ofValue,Sem.run_bind,Sem.run_pure,Result.andThen_ok,invoke,callFunc,run_program,b,c,e,if_false];simp
  · cases hc
theorem aIv{args:Array Operand}{k:Array TypeId}{b:FuncId}{caps:List PV}{p:PV}(ho:o.op= .call ⟨.value f,args,k⟩)(hf:opd s f=some (.fn b caps))(c:pH s args.toList=some ps)(hw:WkL ps qs)(h:PF P b (qs++caps) p):OpV P o s p:=by
 intro w g ρ hm hρ;have i:=hρ f (by rw[ho];simp[Op.operands,Call.operands]) _ hf;have j:=lY c (g:=g) (ρ:=ρ) (λx hx=>hρ x (by rw[ho];simp[Op.operands,Call.operands];grind));have⟨vs,e,i⟩:=i;have⟨hc,a⟩:=h s.st;rw[avK ho e hc];have:=a w g _ hm ((hw.rep j).append i);rw[show(args.map ρ++vs.toArray)=(args.toList.map ρ++vs).toArray from by simp];refine this.mono ?_
 grind
section
variable{l:List Oper}{d:Md}{r:List Oper}{s:St}{K:St->Prop}{t:Nat}{op:Op}{ty:TypeId}{pos:String}{after:Array Edge}{gd:Option (Nat×Bool)}
end
end
end
end Go.Abs
