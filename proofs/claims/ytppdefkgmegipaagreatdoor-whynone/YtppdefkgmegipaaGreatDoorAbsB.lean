import Derived.Test.YtppdefkgmegipaaGreatDoorAbsA
set_option linter.unusedSimpArgs false
set_option linter.unusedVariables false
namespace Go.Abs
open Go
section
def oS (o:Oper):Bool:=match o.op with| .load .. =>true|_=>false
def gH (o:Oper):Bool:=match o.op with| .store .. =>true|_=>false
def uQ (o:Oper) (x:Nat):Bool:=match o.dst with|some d=>Nat.beq d x|none=>false
def vW (o:Oper):Bool:=match o.op with| .alloc _| .box _ _=>true|_=>false
def rG (l:List Oper) (x:Nat):Bool:=l.all λo=> !uQ o x
def dX (l:List Oper) (y:Nat):Bool:=l.any (λo=>uQ o y)&&l.all λo=> !uQ o y||vW o
def ajN (l:List Oper) (x:Nat):Bool:=l.any (λo=>uQ o x)&&l.all λo=> !uQ o x||match o.op with
 | .fieldAddr _ (.tmp y) _=>rG l y
 | .indexAddr _ (.tmp y) _=>rG l y
 |_=>false
def lN (o:Oper):Option Nat:=match o.op with| .load _ (.tmp x)=>some x| .store _ (.tmp x) _=>some x|_=>none
def nP (l:List Oper) (x y:Oper):Bool:=match lN x,lN y with
 |some a,some b=>(dX l a&&rG l b)||(rG l a&&dX l b)||(dX l a&&dX l b&& !Nat.beq a b)||(dX l a&&ajN l b)||(ajN l a&&dX l b)
 |_,_=>false
def wT (l:List Oper) (x y:Oper):Bool:=((gH x&&(oS y||gH y))||(oS x&&gH y))&& !nP l x y
theorem fQ {o:Oper} {x:Nat}:uQ o x=true↔o.dst=some x:=by
 unfold uQ
 cases o.dst with
 |none=>simp
 |some d=>simp only [Option.some.injEq];exact ⟨Nat.eq_of_beq_eq_true,λh=>by subst h;exact Nat.beq_refl _⟩
structure LOK (l:List Oper) (s:St):Prop where
 out:∀x w t off,rG l x=true->s.env x=(w, .adr t off)->dX l t=false
 fr:∀y w t off,dX l y=true->s.env y=(w, .adr t off)->t=y
 der:∀x w t off,ajN l x=true->s.env x=(w, .adr t off)->dX l t=false
theorem LOK.apart {l:List Oper} {s:St} (h:LOK l s) {oi oj:Oper} (ha:nP l oi oj=true) {a b t u i j:Nat} {w v:Bool} (h1:lN oi=some a) (h2:lN oj=some b) (e1:s.env a=(w, .adr t i)) (e2:s.env b=(v, .adr u j)):t≠u:=by
 intro e
 subst e
 unfold nP at ha
 rw [h1,h2] at ha
 simp only [Bool.or_eq_true,zba,Bool.not_eq_true'] at ha
 rcases ha with (((⟨k1,k2⟩|⟨k1,k2⟩)|⟨⟨k1,k2⟩,k3⟩)|⟨k1,k2⟩)|⟨k1,k2⟩
 ·have:=h.fr a _ _ _ k1 e1;subst this;have:=h.out b _ _ _ k2 e2;rw [k1] at this;cases this
 ·have:=h.fr b _ _ _ k2 e2;subst this;have:=h.out a _ _ _ k1 e1;rw [k2] at this;cases this
 ·have q1:=h.fr a _ _ _ k1 e1;have q2:=h.fr b _ _ _ k2 e2;subst q1;subst q2;rw [Nat.beq_refl] at k3;cases k3
 ·have:=h.fr a _ _ _ k1 e1;subst this;have:=h.der b _ _ _ k2 e2;rw [k1] at this;cases this
 ·have:=h.fr b _ _ _ k2 e2;subst this;have:=h.der a _ _ _ k1 e1;rw [k2] at this;cases this
def aqX :Bool×E->Bool
 |(_, .adr _ _)=>false
 |_=>true
def wO (l:List Oper) (s:St):Bool:=l.all λo=>match vW o,o.dst with
 |true,some d=> !s.ad d&&aqX (s.env d)
 |_,_=>true
theorem zL {o:Oper} {x:Nat} (h:lN o=some x):(.tmp x:Operand)∈o.op.operands:=by
 unfold lN at h
 split at h
 ·rename_i e;injection h with h;subst h;rw [e];simp [Op.operands]
 ·rename_i e;injection h with h;subst h;rw [e];simp [Op.operands]
 ·cases h
structure AdOK (s:St):Prop where
 ad:∀t w u off,s.env t=(w, .adr u off)->s.ad u=true
 adL:∀t,s.L t≠none->s.ad t=true
theorem SI.adOK {P:Program} {c:Ctx} {s:St} {a:Act} {w:World} {g:G} {lam:Nat->Nat} (hs:SI P c s a w g lam):AdOK s:=⟨hs.ad,hs.adL⟩
section
variable {P:Program} {l:List Oper}
theorem awZ {s s':St} {x:Operand} (h:∀t,x= .tmp t->s'.env t=s.env t):opd s' x=opd s x/\(dJ s' x↔dJ s x):=by
 cases x with
 |tmp t=>have:=h t rfl;simp [opd,dJ,this]
 |_=>exact ⟨rfl,Iff.rfl⟩
theorem nQ {o:Oper} {t:Nat} (h:(.tmp t:Operand)∈o.op.operands):t∈o.looksAt l.toArray:=by
 unfold Oper.looksAt
 exact List.mem_append_left _ (List.mem_filterMap.2 ⟨.tmp t,by simpa using h,rfl⟩)
theorem kH {o:Oper} {s s':St} (h:∀t∈o.looksAt l.toArray,s'.env t=s.env t):bF l o s'=bF l o s:=by
 unfold bF
 cases hg:o.guard with
 |none=>rfl
 |some jb=>
  obtain ⟨j,b⟩:=jb
  simp only
  cases ht:(l[j]?).bind (·.dst) with
  |none=>rfl
  |some t=>
   have:t∈o.looksAt l.toArray:=by
    unfold Oper.looksAt
    refine List.mem_append_right _ ?_
    rw [hg]
    simp only
    rw [show (l.toArray)[j]?=l[j]? from by simp,ht]
    simp
   simp only [h t this]
theorem AStep.stable {o:Oper} {s s':St} {rd:Bool} {T:Tr} (h:AStep P l o s rd T) (henv:∀t∈o.looksAt l.toArray,s'.env t=s.env t) (hst:rd=true->s'.st=s.st) (hn:s'.n=s.n)
  (hL:(oS o||gH o)=true->∀x t w off,lN o=some x->s.env x=(w, .adr t off)->s'.L t=s.L t) (had:∀d,o.dst=some d->s.ad d=false->s'.ad d=false):AStep P l o s' rd T:=by
 have hop:∀x∈o.op.operands,opd s' x=opd s x/\(dJ s' x↔dJ s x):=λx hx=>awZ λt ht=>henv t (nQ (ht▸hx))
 have hen:∀t,(.tmp t:Operand)∈o.op.operands->s'.env t=s.env t:=λt ht=>henv t (nQ ht)
 have hd':fG o s'=fG o s:=by unfold fG;rw [hn]
 cases h with
 |val _ w p hw hd hf hv=>
  refine .val rd w p (by rw [kH henv];exact hw) (by rw [hd'];exact hd) (λhw' x hx=>(hop x hx).2.2 (hf hw' x hx)) λhw'=> ?_
  cases rd with
  |true=>
   intro w0 g ρ hm hρ
   rw [hst rfl] at hm⊢
   exact hv hw' w0 g ρ hm λx hx=>λp hp=>hρ x hx p (by rw [(hop x hx).1];exact hp)
  |false=>
   intro st' w0 g ρ hm hρ
   exact hv hw' st' w0 g ρ hm λx hx=>λp hp=>hρ x hx p (by have:=(hop x hx).1;cases x<;>first|exact this.trans hp|exact hp)
 |pick w t a b wt x p hw hd ho ht hwt ha hb=>
  have m1:(.tmp t:Operand)∈o.op.operands:=by rw [ho];simp [Op.operands]
  have m2:a∈o.op.operands:=by rw [ho];simp [Op.operands]
  have m3:b∈o.op.operands:=by rw [ho];simp [Op.operands]
  exact .pick w t a b wt x p (by rw [kH henv];exact hw) (by rw [hd'];exact hd) ho (by rw [hen t m1];exact ht) hwt
   (λh1 h2=>⟨(hop a m2).2.2 (ha h1 h2).1,by rw [(hop a m2).1];exact (ha h1 h2).2⟩) (λh1 h2=>⟨(hop b m3).2.2 (hb h1 h2).1,by rw [(hop b m3).1];exact (hb h1 h2).2⟩)
 |adr w wx t off hw hd ho hf=>
  refine .adr w wx t off (by rw [kH henv];exact hw) (by rw [hd'];exact hd) ?_ hf
  rw [<-ho]
  cases hop':o.op<;>simp only [kO]
  rename_i U x f
  cases x with
  |tmp x=>simp only [hen x (by rw [hop'];simp [Op.operands])]
  |_=>rfl
 |adrI w wx t off U x y k i n e sz j hw hd ho hx hy hf hu hs hj=>
  have m1:(.tmp x:Operand)∈o.op.operands:=by rw [ho];simp [Op.operands]
  have m2:y∈o.op.operands:=by rw [ho];simp [Op.operands]
  exact .adrI w wx t off U x y k i n e sz j (by rw [kH henv];exact hw) (by rw [hd'];exact hd) ho (by rw [hen x m1];exact hx) (by rw [(hop y m2).1];exact hy) (λh=>⟨(hf h).1,(hop y m2).2.2 (hf h).2⟩) hu hs hj
 |load1 w wx U x t off T' cs p hw hd ho hx hf hL' hT hu hc=>
  have m1:(.tmp x:Operand)∈o.op.operands:=by rw [ho];simp [Op.operands]
  exact .load1 w wx U x t off T' cs p (by rw [kH henv];exact hw) (by rw [hd'];exact hd) ho (by rw [hen x m1];exact hx) hf (by rw [hL (by simp [oS,ho]) x t wx off (by simp [lN,ho]) hx];exact hL') hT hu hc
 |loadA w wx U x t off T' cs k hw hd ho hx hf hL' hT hk hc=>
  have m1:(.tmp x:Operand)∈o.op.operands:=by rw [ho];simp [Op.operands]
  exact .loadA w wx U x t off T' cs k (by rw [kH henv];exact hw) (by rw [hd'];exact hd) ho (by rw [hen x m1];exact hx) hf (by rw [hL (by simp [oS,ho]) x t wx off (by simp [lN,ho]) hx];exact hL') hT hk hc
 |alloc d U z hg hd hn' had' ho hz=>exact .alloc d U z hg hd (by rw [hn];exact hn') (had d hd had') ho hz
 |box d U x p hg hd hn' had' ho hf hx hp=>
  have m1:x∈o.op.operands:=by rw [ho];simp [Op.operands]
  exact .box d U x p hg hd (by rw [hn];exact hn') (had d hd had') ho ((hop x m1).2.2 hf) (by rw [(hop x m1).1];exact hx) hp
 |store U x y t off T' cs p hg hd ho hx hL' hf hy hp hk hc=>
  have m1:(.tmp x:Operand)∈o.op.operands:=by rw [ho];simp [Op.operands]
  have m2:y∈o.op.operands:=by rw [ho];simp [Op.operands]
  exact .store U x y t off T' cs p hg hd ho (by rw [hen x m1];exact hx) (by rw [hL (by simp [gH,ho]) x t true off (by simp [lN,ho]) hx];exact hL') ((hop y m2).2.2 hf) (by rw [(hop y m2).1];exact hy) hp hk hc
theorem AStep.kind {o:Oper} {s:St} {rd:Bool} {T:Tr} (h:AStep P l o s rd T) (hA:AdOK s):
  (∃w e,T= .put o.dst w e/\∀u off,e= .adr u off->s.ad u=true)\/(∃d U cs,o.dst=some d/\T= .box d U cs/\s.ad d=false)\/
   (∃t U cs,gH o=true/\o.dst=none/\T= .sto t U cs/\s.L t≠none/\∃x w off,lN o=some x/\s.env x=(w, .adr t off)):=by
 cases h with
 |val _ w p _ _ _ _=>exact .inl ⟨w,_,rfl,λ_ _ e=>by cases e⟩
 |pick w _ _ _ _ _ p _ _ _ _ _ _ _=>exact .inl ⟨w,_,rfl,λ_ _ e=>by cases e⟩
 |adr w wx t off hw hd ho hf=>
  refine .inl ⟨w,_,rfl,λu off' e=> ?_⟩
  cases e
  unfold kO at ho
  split at ho
  ·split at ho
   ·rename_i hx
    split at ho
    ·split at ho
     ·split at ho
      ·cases ho
      ·injection ho with ho
       injection ho with h1 h2
       injection h2 with h2 h3
       subst h2
       exact hA.ad _ _ _ _ hx
     ·cases ho
    ·cases ho
   ·cases ho
  ·cases ho
 |adrI w wx t off U x y k i n e sz j hw hd ho hx hy hf hu hs hj=>exact .inl ⟨w,_,rfl,λu off' e=>by cases e;exact hA.ad _ _ _ _ hx⟩
 |load1 w _ _ _ _ _ _ _ p _ _ _ _ _ _ _ _ _=>exact .inl ⟨w,_,rfl,λ_ _ e=>by cases e⟩
 |loadA w _ _ _ _ _ _ _ k _ _ _ _ _ _ _ _ _=>exact .inl ⟨w,_,rfl,λ_ _ e=>by cases e⟩
 |alloc d U z hg hd hn had ho hz=>exact .inr (.inl ⟨d,U,_,hd,rfl,had⟩)
 |box d U x p hg hd hn had ho hf hx hp=>exact .inr (.inl ⟨d,U,_,hd,rfl,had⟩)
 |store U x y t off T' cs p hg hd ho hx hL hf hy hp hk hc=>exact .inr (.inr ⟨t,T',_,by simp [gH,ho],hd,rfl,by rw [hL];simp,x,true,off,by simp [lN,ho],hx⟩)
theorem AdOK.put {s:St} (hA:AdOK s) {d:Option Nat} {w:Bool} {e:E} (h:∀u off,e= .adr u off->s.ad u=true):AdOK (s.put d w e):=by
 cases d with
 |none=>exact hA
 |some d=>
  refine ⟨λt w' u off e'=> ?_,hA.adL⟩
  have e'':upd s.env d (w,e) t=(w', .adr u off):=e'
  by_cases ht:t=d
  ·subst ht;rw [aA] at e'';exact h u off (by injection e'')
  ·rw [aC ht] at e'';exact hA.ad t w' u off e''
theorem AdOK.var {s:St} (hA:AdOK s) {d:Nat} {U:TypeId} {cs:List PV}:AdOK (s.var d U cs):=by
 refine ⟨λt w u off e=> ?_,λt e=> ?_⟩
 ·have e':upd s.env d (true, .adr d 0) t=(w, .adr u off):=e
  show upd s.ad d true u=true
  by_cases hu:u=d
  ·rw [hu,aA]
  ·rw [aC hu]
   by_cases ht:t=d
   ·subst ht;rw [aA] at e';injection e' with h1 h2;injection h2 with h2 h3;exact absurd h2.symm hu
   ·rw [aC ht] at e';exact hA.ad t w u off e'
 ·have e':upd s.L d (some (U,cs)) t≠none:=e
  show upd s.ad d true t=true
  by_cases ht:t=d
  ·rw [ht,aA]
  ·rw [aC ht] at e'⊢;exact hA.adL t e'
theorem AStep.adOK {o:Oper} {s:St} {rd:Bool} {T:Tr} (h:AStep P l o s rd T) (hA:AdOK s):AdOK (T.app s):=by
 rcases h.kind hA with ⟨w,e,rfl,he⟩|⟨d,U,cs,_,rfl,_⟩|⟨t,U,cs,_,_,rfl,hL,_⟩
 ·exact hA.put he
 ·exact hA.var
 ·refine ⟨hA.ad,λu e=> ?_⟩
  have e':upd s.L t (some (U,cs)) u≠none:=e
  by_cases hu:u=t
  ·rw [hu];exact hA.adL t hL
  ·rw [aC hu] at e';exact hA.adL u e'
theorem Tr.app_env {o:Oper} {s s0:St} {rd:Bool} {T:Tr} (h:AStep P l o s0 rd T) (hA:AdOK s0) {t:Nat} (ht:o.dst≠some t):(T.app s).env t=s.env t:=by
 rcases h.kind hA with ⟨w,e,rfl,_⟩|⟨d,U,cs,hd,rfl,_⟩|⟨t',U,cs,_,_,rfl,_,_⟩
 ·cases hd:o.dst with
  |none=>rfl
  |some d=>show upd s.env d (w,e) t=_;exact aC λh=>ht (by rw [hd,h])
 ·show upd s.env d _ t=_;exact aC λh=>ht (by rw [hd,h])
 ·rfl
theorem Tr.app_st (T:Tr) (s:St):(T.app s).st=s.st/\(T.app s).n=s.n:=by
 cases T with
 |put d w e=>cases d<;>exact ⟨rfl,rfl⟩
 |_=>exact ⟨rfl,rfl⟩
theorem akO {o:Oper} {d:Nat} (ho:o∈l) (hd:o.dst=some d) (h:ajN l d=true):∃y,((∃T f,o.op= .fieldAddr T (.tmp y) f)\/∃T i,o.op= .indexAddr T (.tmp y) i)/\rG l y=true:=by
 simp only [ajN,zba] at h
 have:=zal.1 h.2 o ho
 rw [fQ.2 hd] at this
 simp only [Bool.not_true,Bool.false_or] at this
 split at this
 ·rename_i T y f e;exact ⟨y, .inl ⟨T,f,e⟩,this⟩
 ·rename_i T y f e;exact ⟨y, .inr ⟨T,f,e⟩,this⟩
 ·cases this
theorem aiO {o:Oper} {d:Nat} (ho:o∈l) (hd:o.dst=some d) (h:ajN l d=true):dX l d=false:=by
 obtain ⟨y,e,_⟩:=akO ho hd h
 cases hf:dX l d with
 |false=>rfl
 |true=>
  simp only [dX,zba] at hf
  have:=zal.1 hf.2 o ho
  rw [fQ.2 hd] at this
  rcases e with ⟨T,f,e⟩|⟨T,f,e⟩<;>simp [vW,e] at this
theorem LOK.put {s:St} (h:LOK l s) {o:Oper} (ho:o∈l) {w:Bool} {e:E} (hn:∀u off,e= .adr u off->vW o=false) (hder:∀d u off,o.dst=some d->e= .adr u off->ajN l d=true->dX l u=false):LOK l (s.put o.dst w e):=by
 cases hd:o.dst with
 |none=>exact h
 |some d=>
  refine ⟨λx w' t off hx he=> ?_,λy w' t off hy he=> ?_,λy w' t off hy he=> ?_⟩
  ·have hne:x≠d:=λe=>by
    subst e
    have:=zal.1 hx o ho
    rw [fQ.2 hd] at this;cases this
   have he':upd s.env d (w,e) x=(w', .adr t off):=he
   rw [aC hne] at he'
   exact h.out x _ _ _ hx he'
  ·have he':upd s.env d (w,e) y=(w', .adr t off):=he
   by_cases hyd:y=d
   ·subst hyd
    rw [aA] at he'
    injection he' with _ he'
    have h1:=hn _ _ he'
    simp only [dX,zba] at hy
    have:=zal.1 hy.2 o ho
    rw [fQ.2 hd,h1] at this;cases this
   ·rw [aC hyd] at he'
    exact h.fr y _ _ _ hy he'
  ·have he':upd s.env d (w,e) y=(w', .adr t off):=he
   by_cases hyd:y=d
   ·subst hyd
    rw [aA] at he'
    injection he' with _ he'
    exact hder _ _ _ hd he' hy
   ·rw [aC hyd] at he'
    exact h.der y _ _ _ hy he'
theorem LOK.var {s:St} (h:LOK l s) {o:Oper} (ho:o∈l) {d:Nat} (hd:o.dst=some d) {U:TypeId} {cs:List PV}:LOK l (s.var d U cs):=by
 refine ⟨λx w' t off hx he=> ?_,λy w' t off hy he=> ?_,λy w' t off hy he=> ?_⟩
 ·have hne:x≠d:=λe=>by
   subst e
   have:=zal.1 hx o ho
   rw [fQ.2 hd] at this;cases this
  have he':upd s.env d (true, .adr d 0) x=(w', .adr t off):=he
  rw [aC hne] at he'
  exact h.out x _ _ _ hx he'
 ·have he':upd s.env d (true, .adr d 0) y=(w', .adr t off):=he
  by_cases hyd:y=d
  ·subst hyd
   rw [aA] at he'
   injection he' with _ he'
   injection he' with he' _
   exact he'.symm
  ·rw [aC hyd] at he'
   exact h.fr y _ _ _ hy he'
 ·have he':upd s.env d (true, .adr d 0) y=(w', .adr t off):=he
  by_cases hyd:y=d
  ·subst hyd
   rw [aA] at he'
   injection he' with _ he'
   injection he' with he' _
   rw [<-he']
   exact aiO ho hd hy
  ·rw [aC hyd] at he'
   exact h.der y _ _ _ hy he'
theorem AStep.notNew {o:Oper} {s:St} {rd:Bool} {d:Option Nat} {w:Bool} {u off:Nat} (h:AStep P l o s rd (.put d w (.adr u off))):vW o=false:=by
 unfold vW
 cases h with
 |adr w wx t off hw hd ho hf=>
  cases hop:o.op<;>rw [hop] at ho<;>simp only [kO] at ho<;>first|rfl|cases ho
 |adrI w wx t off U x y k i n e sz j hw hd ho hx hy hf hu hs hj=>rw [ho]
theorem AStep.derOut {o:Oper} {s:St} {rd:Bool} {d:Option Nat} {w:Bool} {u off:Nat} (h:AStep P l o s rd (.put d w (.adr u off))) {T:TypeId} {y f:Nat} (hop:o.op= .fieldAddr T (.tmp y) f):∃w' off',s.env y=(w', .adr u off'):=by
 cases h with
 |adr w wx t off hw hd ho hf=>
  rw [hop] at ho
  simp only [kO] at ho
  split at ho
  ·rename_i w' t' off' e
   split at ho
   ·split at ho
    ·split at ho
     ·cases ho
     ·injection ho with ho
      injection ho with _ ho
      injection ho with ho _
      subst ho
      exact ⟨_,_,e⟩
    ·cases ho
   ·cases ho
  ·cases ho
 |adrI w wx t off U x y k i n e sz j hw hd ho hx hy hf hu hs hj=>rw [hop] at ho;cases ho
theorem AStep.derOutI {o:Oper} {s:St} {rd:Bool} {d:Option Nat} {w:Bool} {u off:Nat} (h:AStep P l o s rd (.put d w (.adr u off))) {T:TypeId} {y:Nat} {f:Operand} (hop:o.op= .indexAddr T (.tmp y) f):∃w' off',s.env y=(w', .adr u off'):=by
 cases h with
 |adr w wx t off hw hd ho hf=>rw [hop] at ho;simp only [kO] at ho;cases ho
 |adrI w wx t off U x y' k i n e sz j hw hd ho hx hy hf hu hs hj=>
  rw [hop] at ho
  injection ho with _ h2 _
  injection h2 with h2
  subst h2
  exact ⟨_,_,hx⟩
theorem LOK.step {o:Oper} {s:St} {rd:Bool} {T:Tr} (hL:LOK l s) (ho:o∈l) (h:AStep P l o s rd T) (hA:AdOK s):LOK l (T.app s):=by
 rcases h.kind hA with ⟨w,e,rfl,_⟩|⟨d,U,cs,hd,rfl,_⟩|⟨t,U,cs,_,_,rfl,_,_⟩
 ·refine hL.put ho (λu off e'=>by subst e';exact h.notNew) λd u off hd e' hder=> ?_
  subst e'
  obtain ⟨y,⟨T,f,e1⟩|⟨T,f,e1⟩,e2⟩:=akO ho hd hder
  ·obtain ⟨w',off',e3⟩:=h.derOut e1
   exact hL.out y _ _ _ e2 e3
  ·obtain ⟨w',off',e3⟩:=h.derOutI e1
   exact hL.out y _ _ _ e2 e3
 ·exact hL.var ho hd
 ·exact ⟨hL.out,hL.fr,hL.der⟩
theorem aCf {oi oj:Oper} {s:St} {ri rj:Bool} {Ti Tj:Tr} (hap:oi.apart l.toArray oj=true) (hmc:wT l oi oj=false) (hA:AdOK s) (hLK:LOK l s) (hi:AStep P l oi s ri Ti) (hj:AStep P l oj (Ti.app s) rj Tj):
  AStep P l oj s rj Tj/\AStep P l oi (Tj.app s) ri Ti/\Tj.app (Ti.app s)=Ti.app (Tj.app s):=by
 obtain ⟨h1,h2,h3⟩:=Oper.apart_spec hap
 have ei:∀t,oi.dst≠some t->(Ti.app s).env t=s.env t:=λt ht=>Tr.app_env hi hA ht
 have nc:((gH oi&&(oS oj||gH oj))||(oS oi&&gH oj))=true->nP l oi oj=true:=λe=>by
  unfold wT at hmc
  rw [e] at hmc
  simpa using hmc
 have p1:AStep P l oj s rj Tj:=by
  refine hj.stable (λt ht=>(ei t λh=>h1 t h ht).symm) (λ_=>(Ti.app_st s).1.symm) (Ti.app_st s).2.symm (λhk x t w off hx he=> ?_) (λd hd had=> ?_)
  ·rw [ei x λh=>h1 x h (nQ (zL hx))] at he
   have hat:=hA.ad x w t off he
   rcases hi.kind hA with ⟨w',e,rfl,_⟩|⟨d,U,cs,hd,rfl,had⟩|⟨t',U,cs,hst,_,rfl,_,xi,wi,fi,hxi,hei⟩
   ·cases oi.dst<;>rfl
   ·show s.L t=upd s.L d _ t
    rw [aC];intro h;rw [h,had] at hat;cases hat
   ·show s.L t=upd s.L t' _ t
    rw [aC]
    intro e
    have hx2:(Operand.tmp x)∈oj.op.operands:=zL hx
    exact hLK.apart (nc (by rw [hst];rw [Bool.or_eq_true] at hk;rcases hk with hk|hk<;>simp [hk])) hxi hx hei he e.symm
  ·rcases hi.kind hA with ⟨w',e,rfl,_⟩|⟨d',U,cs,hd',rfl,had'⟩|⟨t',U,cs,hst,_,rfl,_,xi,wi,fi,hxi,hei⟩
   ·cases hdi:oi.dst<;>rw [hdi] at had<;>exact had
   ·have:upd s.ad d' true d=false:=had
    by_cases h:d=d'
    ·rw [h,aA] at this;cases this
    ·rwa [aC h] at this
   ·exact had
 have p2:AStep P l oi (Tj.app s) ri Ti:=by
  have ej:∀t,oj.dst≠some t->(Tj.app s).env t=s.env t:=λt ht=>Tr.app_env p1 hA ht
  refine hi.stable (λt ht=>ej t λh=>h3 t h ht) (λ_=>(Tj.app_st s).1) (Tj.app_st s).2 (λhk x t w off hx he=> ?_) (λd hd had=> ?_)
  ·have hat:=hA.ad x w t off he
   rcases p1.kind hA with ⟨w',e,rfl,_⟩|⟨d,U,cs,hd,rfl,had⟩|⟨t',U,cs,hst,_,rfl,_,xi,wi,fi,hxi,hei⟩
   ·cases oj.dst<;>rfl
   ·show upd s.L d _ t=s.L t
    rw [aC];intro h;rw [h,had] at hat;cases hat
   ·show upd s.L t' _ t=s.L t
    rw [aC]
    intro e
    rw [Bool.or_eq_true] at hk
    exact hLK.apart (nc (by rw [hst];rcases hk with hk|hk<;>simp [hk])) hx hxi he hei e
  ·rcases p1.kind hA with ⟨w',e,rfl,_⟩|⟨d',U,cs,hd',rfl,had'⟩|⟨t',U,cs,hst,_,rfl,_,xi,wi,fi,hxi,hei⟩
   ·cases hdj:oj.dst<;>exact had
   ·show upd s.ad d' true d=false
    rw [aC]
    ·exact had
    ·intro h;subst h;exact h2 d hd hd'
   ·exact had
 refine ⟨p1,p2, ?_⟩
 rcases hi.kind hA with ⟨w,e,rfl,_⟩|⟨d,U,cs,hd,rfl,had⟩|⟨t,U,cs,hst,hdi,rfl,hL,xi,wi,fi,hxi,hei⟩
 ·rcases p1.kind hA with ⟨w',e',rfl,_⟩|⟨d',U',cs',hd',rfl,had'⟩|⟨t',U',cs',hst',hdj,rfl,hL',xj,wj,fj,hxj,hej⟩
  ·cases hdi:oi.dst with
   |none=>rfl
   |some d=>
    cases hdj:oj.dst with
    |none=>rfl
    |some d'=>
     have hne:d≠d':=λh=>h2 d hdi (by rw [hdj,h])
     simp only [Tr.app,St.put]
     rw [dH hne]
  ·cases hdi:oi.dst with
   |none=>rfl
   |some d=>
    have hne:d≠d':=λh=>h2 d hdi (by rw [hd',h])
    simp only [Tr.app,St.put,St.var]
    rw [dH hne]
  ·cases hdi:oi.dst<;>rfl
 ·rcases p1.kind hA with ⟨w',e',rfl,_⟩|⟨d',U',cs',hd',rfl,had'⟩|⟨t',U',cs',hst',hdj,rfl,hL',xj,wj,fj,hxj,hej⟩
  ·cases hdj:oj.dst with
   |none=>rfl
   |some d'=>
    have hne:d≠d':=λh=>h2 d hd (by rw [hdj,h])
    simp only [Tr.app,St.put,St.var]
    rw [dH hne]
  ·have hne:d≠d':=λh=>h2 d hd (by rw [hd',h])
   simp only [Tr.app,St.var]
   rw [dH hne,dH hne,dH hne]
  ·have hne:d≠t':=λh=>by have:=hA.adL t' hL';rw [<-h,had] at this;cases this
   simp only [Tr.app,St.var]
   rw [dH hne]
 ·rcases p1.kind hA with ⟨w',e',rfl,_⟩|⟨d',U',cs',hd',rfl,had'⟩|⟨t',U',cs',hst',hdj,rfl,hL',xj,wj,fj,hxj,hej⟩
  ·cases oj.dst<;>rfl
  ·have hne:t≠d':=λh=>by have:=hA.adL t hL;rw [h,had'] at this;cases this
   simp only [Tr.app,St.var]
   rw [dH hne]
  ·have hne:t≠t':=hLK.apart (nc (by rw [hst,hst'];simp)) hxi hxj hei hej
   simp only [Tr.app]
   rw [dH hne]
def WpA (P:Program) (l:List Oper) (o:Oper) (s:St) (K:St->Prop):Prop:=
 ∀c a w g lam,SI P c s a w g lam->∀(K':Act->World->Prop) (Q:Exit->Act->World->Prop),(∀s' a' w' g' lam',K s'->SI P c s' a' w' g' lam'->K' a' w')->sQ P c.ro l o a w K' Q
def St.turn (s:St) (o:Oper) (x:aD×PV):St:=(s.sst x.1).put o.dst true (.pv x.2)
def ZOp (P:Program) (l:List Oper) (o:Oper) (s:St) (R:aD×PV->Prop):Prop:=
 ∀s',(∀t∈o.looksAt l.toArray,s'.env t=s.env t)->s'.st=s.st->s'.n=s.n->WpA P l o s' λs''=>∃x,R x/\s''=s'.turn o x
inductive Md where
 |seq
 |draw (z r:List Nat)
def Md.z :Md->List Nat
 | .seq=>[]
 | .draw z _=>z
def Md.r :Md->List Nat
 | .seq=>[]
 | .draw _ r=>r
def eB (k:Nat):List Nat->Bool
 |[]=>false
 |x::xs=>Nat.beq k x||eB k xs
theorem St.turn_env {s:St} {o:Oper} {x:aD×PV} {t:Nat} (h:o.dst≠some t):(s.turn o x).env t=s.env t:=by
 unfold St.turn St.put
 cases hd:o.dst with
 |none=>rfl
 |some d=>show upd s.env d _ t=_;exact aC λe=>h (by rw [hd,e])
theorem St.turn_rest {s:St} {o:Oper} {x:aD×PV}:(s.turn o x).L=s.L/\(s.turn o x).ad=s.ad/\(s.turn o x).n=s.n/\(s.turn o x).st=x.1:=by
 unfold St.turn St.put
 cases o.dst<;>exact ⟨rfl,rfl,rfl,rfl⟩
theorem AdOK.turn {s:St} (hA:AdOK s) {o:Oper} {x:aD×PV}:AdOK (s.turn o x):=
 AdOK.put (s:=s.sst x.1) ⟨hA.ad,hA.adL⟩ λ_ _ e=>by cases e
theorem LOK.turn {s:St} (h:LOK l s) {o:Oper} (ho:o∈l) {x:aD×PV}:LOK l (s.turn o x):=
 LOK.put (s:=s.sst x.1) ⟨h.out,h.fr,h.der⟩ ho (λ_ _ e=>by cases e) λ_ _ _ _ e=>by cases e
theorem LOK.init {s:St} (hA:AdOK s) (h:wO l s=true):LOK l s:=by
 have hf:∀y,dX l y=true->s.ad y=false/\aqX (s.env y)=true:=λy hy=>by
  simp only [dX,zba] at hy
  obtain ⟨o,ho,hd⟩:=List.any_eq_true.1 hy.1
  have h1:=zal.1 hy.2 o ho
  rw [hd] at h1
  have hn:vW o=true:=by simpa using h1
  have h2:=zal.1 h o ho
  rw [hn,fQ.1 hd] at h2
  simpa using h2
 have hout:∀x w t off,s.env x=(w, .adr t off)->dX l t=false:=λx w t off he=>by
  cases hc:dX l t with
  |false=>rfl
  |true=>have:=hA.ad _ _ _ _ he;rw [(hf t hc).1] at this;cases this
 refine ⟨λx w t off _ he=>hout x w t off he,λy w t off hy he=> ?_,λx w t off _ he=>hout x w t off he⟩
 have:=(hf y hy).2
 rw [he] at this;cases this
theorem aCt {oi oj:Oper} {s:St} {Ti:Tr} {R:aD×PV->Prop} (hap:oi.apart l.toArray oj=true) (hA:AdOK s) (hi:AStep P l oi s false Ti) (hj:ZOp P l oj (Ti.app s) R):
  ZOp P l oj s R/\∀x,AStep P l oi (s.turn oj x) false Ti/\Ti.app (s.turn oj x)=(Ti.app s).turn oj x:=by
 obtain ⟨h1,h2,h3⟩:=Oper.apart_spec hap
 have ei:∀t,oi.dst≠some t->(Ti.app s).env t=s.env t:=λt ht=>Tr.app_env hi hA ht
 refine ⟨λs' he hst hn=>hj s' (λt ht=>(he t ht).trans (ei t λh=>h1 t h ht).symm) (hst.trans (Ti.app_st s).1.symm) (hn.trans (Ti.app_st s).2.symm),λx=>⟨?_, ?_⟩⟩
 ·refine hi.stable (λt ht=>St.turn_env λh=>h3 t h ht) (λe=>by cases e) St.turn_rest.2.2.1 (λ_ _ t _ _ _ _=>by rw [St.turn_rest.1]) (λd _ had=>by rw [St.turn_rest.2.1];exact had)
 ·rcases hi.kind hA with ⟨w,e,rfl,_⟩|⟨d,U,cs,hd,rfl,had⟩|⟨t,U,cs,hst,hdi,rfl,hL,xi,wi,fi,hxi,hei⟩
  ·cases hdi:oi.dst with
   |none=>rfl
   |some d=>
    unfold St.turn
    cases hdj:oj.dst with
    |none=>rfl
    |some d'=>
     have hne:d≠d':=λh=>h2 d hdi (by rw [hdj,h])
     simp only [Tr.app,St.put,St.sst]
     rw [dH hne]
  ·unfold St.turn
   cases hdj:oj.dst with
   |none=>rfl
   |some d'=>
    have hne:d≠d':=λh=>h2 d hd (by rw [hdj,h])
    simp only [Tr.app,St.put,St.sst,St.var]
    rw [dH hne]
  ·unfold St.turn
   cases oj.dst<;>rfl
def AOp (P:Program) (l:List Oper) (md:Md) (i:Nat) (K:St->Prop) (s:St):Prop:=
 match l[i]? with
 |none=>K s
 |some o=>match eB i md.z with
  |true=>∃R,ZOp P l o s R/\∀x,R x->K (s.turn o x)
  |false=>∃T,AStep P l o s (eB i md.r) T/\K (T.app s)
def AAny (P:Program) (l:List Oper) (md:Md) (K:St->Prop):Nat->Array Bool->St->Prop
 |0,listed,s=>Region.ready .any l.toArray listed=[]/\K s
 |fuel+1,listed,s=>(Region.ready .any l.toArray listed=[]->K s)/\∀i∈Region.ready .any l.toArray listed,AOp P l md i (AAny P l md K fuel (listed.setIfInBounds i true)) s
variable {md:Md}
theorem AAny.sound {K:St->Prop} {Q:Exit->Act->World->Prop} {c:Ctx} (hQ:∀s a w g lam,K s->SI P c s a w g lam->Q .normal a w):∀(fuel:Nat) (listed:Array Bool) (s:St) (a:Act) (w:World) (g:G) (lam:Nat->Nat),
  SI P c s a w g lam->AAny P l md K fuel listed s->wpAnyIn (FR c.ro) 0 P .any l.toArray Q fuel listed a w
 |0,_,s,a,w,g,lam,hs,h=>⟨h.1,hQ s a w g lam h.2 hs⟩
 |fuel+1,listed,s,a,w,g,lam,hs,h=>by
  refine ⟨λh0=>hQ s a w g lam (h.1 h0) hs,λi hi=> ?_⟩
  have h1:=h.2 i hi
  unfold AOp at h1
  unfold wpOpIn
  rw [show (l.toArray)[i]?=l[i]? from by simp]
  cases ho:l[i]? with
  |none=>rw [ho] at h1;exact AAny.sound hQ fuel _ s a w g lam hs h1
  |some o=>
   rw [ho] at h1
   have key:sQ P c.ro l o a w (wpAnyIn (FR c.ro) 0 P .any l.toArray Q fuel (listed.setIfInBounds i true)) Q:=by
    simp only at h1
    split at h1
    ·obtain ⟨R,hR,hK⟩:=h1
     exact hR s (λ_ _=>rfl) rfl rfl c a w g lam hs _ _ λs' a' w' g' lam' ⟨x,hx,e⟩ hs'=>by
      subst e
      exact AAny.sound hQ fuel _ _ a' w' g' lam' hs' (hK x hx)
    ·obtain ⟨T,hT,hK⟩:=h1
     exact hT.sound hs (K:=wpAnyIn (FR c.ro) 0 P .any l.toArray Q fuel (listed.setIfInBounds i true)) (Q:=Q) λa' w' g' lam' hs'=>AAny.sound hQ fuel _ _ a' w' g' lam' hs' hK
   unfold sQ at key
   simp only
   split at key
   ·rename_i hw;rw [zp hw];exact key
   ·rename_i hw;rw [zn hw];exact ⟨λ_ _=>trivial,key⟩
def aCa (oj:Oper) (i:Nat):Bool:=oj.after.any (λe=>Region.binds .any e&&e.on==i)
def pI (l:List Oper) (md:Md) (i:Nat) (oi:Oper) (j:Nat) (oj:Oper):Bool:=
 match eB i md.z,eB j md.z with
 |true,_=>false
 |false,true=>oi.apart l.toArray oj&& !eB i md.r
 |false,false=>oi.apart l.toArray oj&& !wT l oi oj
def adG (l:List Oper) (md:Md) (listed:Array Bool) (i:Nat):Bool:=
 match l[i]? with
 |none=>false
 |some oi=>(List.range l.length).all λj=>j==i||listed.getD j true||match l[j]? with
   |some oj=>aCa oj i||pI l md i oi j oj
   |none=>true
theorem lD {i:Nat} {oi:Oper} {listed:Array Bool} (hi:l[i]?=some oi) (h:adG l md listed i=true) (j:Nat) (oj:Oper)
  (hj:l[j]?=some oj) (hne:j≠i) (hun:listed.getD j true=false) (hno:∀e∈oj.after,Region.binds .any e=true->e.on≠i):
  pI l md i oi j oj=true:=by
 simp only [adG,hi,zal,List.mem_range] at h
 have h1:=h j (zge.1 hj).1
 simp only [hj,Bool.or_eq_true,beq_iff_eq,hne,false_or,hun,Bool.false_eq_true] at h1
 rcases h1 with h1|h1
 ·obtain ⟨e,he,hb⟩:=Array.any_eq_true'.1 h1
  simp only [zba,beq_iff_eq] at hb
  exact absurd hb.2 (hno e he hb.1)
 ·exact h1
theorem aaD {i j:Nat} {listed:Array Bool} (hr:i∈Region.ready .any l.toArray listed) (hj:j∈Region.ready .any l.toArray listed) {oj:Oper} (hoj:l[j]?=some oj):∀e∈oj.after,Region.binds .any e=true->e.on≠i:=λe he hb heq=>by
 obtain ⟨_,oj',hoj',hall⟩:=mem_ready.1 hj
 have:oj'=oj:=by simpa [hoj] using hoj'.symm
 subst this
 have h1:=hall e he hb
 have h0:=(mem_ready.1 hr).1
 rw [heq] at h1
 rcases Nat.lt_or_ge i listed.size with h'|h'
 ·simp [h'] at h0 h1;rw [h0] at h1;cases h1
 ·simp [Array.getElem?_eq_none h'] at h1
theorem AAny.first {K:St->Prop} {i:Nat} {oi:Oper} {Ti:Tr} (hi:l[i]?=some oi) (hz:eB i md.z=false):∀(fuel:Nat) (listed:Array Bool) (s:St),
  (∀j oj,l[j]?=some oj->j≠i->listed.getD j true=false->(∀e∈oj.after,Region.binds .any e=true->e.on≠i)->pI l md i oi j oj=true)->
  AdOK s->LOK l s->i∈Region.ready .any l.toArray listed->AStep P l oi s (eB i md.r) Ti->AAny P l md K fuel (listed.setIfInBounds i true) (Ti.app s)->AAny P l md K (fuel+1) listed s:=by
 intro fuel
 induction fuel with
 |zero=>
  intro listed s _ _ _ hr hy H
  refine ⟨λh=>(by rw [h] at hr;cases hr),λj hj=> ?_⟩
  by_cases hji:j=i
  ·subst hji;unfold AOp;rw [hi];simp only [hz];exact ⟨Ti,hy,H⟩
  ·have:=ready_mono hj hji
   rw [H.1] at this
   cases this
 |succ fuel ih=>
  intro listed s hfree hA hLK hr hy H
  refine ⟨λh=>(by rw [h] at hr;cases hr),λj hj=> ?_⟩
  by_cases hji:j=i
  ·subst hji;unfold AOp;rw [hi];simp only [hz];exact ⟨Ti,hy,H⟩
  ·have h1:=H.2 j (ready_mono hj hji)
   obtain ⟨hjun,oj,hoj,hall⟩:=mem_ready.1 hj
   have hoj':l[j]?=some oj:=by simpa using hoj
   have hp:=hfree j oj hoj' hji hjun (aaD hr hj hoj')
   have hfree':∀k ok,l[k]?=some ok->k≠i->(listed.setIfInBounds j true).getD k true=false->(∀e∈ok.after,Region.binds .any e=true->e.on≠i)->pI l md i oi k ok=true:=λk ok hk hki hun hno=>by
    refine hfree k ok hk hki ?_ hno
    by_cases hjk:j=k
    ·subst hjk;exact hjun
    ·rw [getD_set_ne true hjk] at hun;exact hun
   unfold AOp at h1⊢
   rw [hoj'] at h1⊢
   unfold pI at hp
   rw [hz] at hp
   cases hzj:eB j md.z with
   |true=>
    rw [hzj] at h1 hp
    simp only [zba,Bool.not_eq_true'] at hp h1⊢
    obtain ⟨R,hR,hK⟩:=h1
    rw [hp.2] at hy
    obtain ⟨c1,c2⟩:=aCt hp.1 hA hy hR
    refine ⟨R,c1,λx hx=>ih (listed.setIfInBounds j true) (s.turn oj x) hfree' hA.turn (hLK.turn (List.mem_of_getElem? hoj')) (ready_mono hr (Ne.symm hji)) (by rw [hp.2];exact (c2 x).1) ?_⟩
    rw [Array.setIfInBounds_comm _ _ hji,(c2 x).2]
    exact hK x hx
   |false=>
    rw [hzj] at h1 hp
    simp only [zba,Bool.not_eq_true'] at hp h1⊢
    obtain ⟨Tj,hTj,hK⟩:=h1
    obtain ⟨c1,c2,c3⟩:=aCf hp.1 hp.2 hA hLK hy hTj
    refine ⟨Tj,c1,ih (listed.setIfInBounds j true) (Tj.app s) hfree' (c1.adOK hA) (hLK.step (List.mem_of_getElem? hoj') c1 hA) (ready_mono hr (Ne.symm hji)) c2 ?_⟩
    rw [Array.setIfInBounds_comm _ _ hji,<-c3]
    exact hK
theorem AAny.alone {K:St->Prop} {i:Nat} {oi:Oper} {R:aD×PV->Prop} (hi:l[i]?=some oi) (hz:eB i md.z=true) (fuel:Nat) (listed:Array Bool) (s:St)
  (hfree:∀j oj,l[j]?=some oj->j≠i->listed.getD j true=false->(∀e∈oj.after,Region.binds .any e=true->e.on≠i)->pI l md i oi j oj=true)
  (hr:i∈Region.ready .any l.toArray listed) (hy:ZOp P l oi s R) (H:∀x,R x->AAny P l md K fuel (listed.setIfInBounds i true) (s.turn oi x)):AAny P l md K (fuel+1) listed s:=by
 refine ⟨λh=>(by rw [h] at hr;cases hr),λj hj=> ?_⟩
 by_cases hji:j=i
 ·subst hji;unfold AOp;rw [hi];simp only [hz];exact ⟨R,hy,H⟩
 ·obtain ⟨hjun,oj,hoj,hall⟩:=mem_ready.1 hj
  have hoj':l[j]?=some oj:=by simpa using hoj
  have hp:=hfree j oj hoj' hji hjun (aaD hr hj hoj')
  unfold pI at hp
  rw [hz] at hp
  cases hp
def mN (l:List Oper) (md:Md):Nat->Nat->Array Bool->Bool
 |0,_,listed=>(Region.ready .any l.toArray listed).isEmpty
 |fuel+1,k,listed=>(Region.ready .any l.toArray listed).contains k&&adG l md listed k&&mN l md fuel (k+1) (listed.setIfInBounds k true)
def ahV (l:List Oper) (md:Md):Bool:=mN l md l.length 0 (Array.replicate l.length false)
def EvD (P:Program) (l:List Oper) (md:Md):List Oper->St->(St->Prop)->Prop
 |[],s,K=>K s
 |o::r,s,K=>match eB (l.length-(r.length+1)) md.z with
  |true=>∃R,ZOp P l o s R/\∀x,R x->EvD P l md r (s.turn o x) K
  |false=>∃T,AStep P l o s (eB (l.length-(r.length+1)) md.r) T/\EvD P l md r (T.app s) K
theorem AAny.lex {K:St->Prop}:∀(r:List Oper) (k:Nat) (listed:Array Bool) (s:St),l.length=k+r.length->(∀j,r[j]?=l[k+j]?)->AdOK s->LOK l s->mN l md r.length k listed=true->EvD P l md r s K->AAny P l md K r.length listed s
 |[],_,_,_,_,_,_,_,hB,h=>⟨by simpa [mN] using hB,h⟩
 |o::r,k,listed,s,hlen,hl,hA,hLK,hB,h=>by
  have h0:l[k]?=some o:=by simpa using (hl 0).symm
  have hk:l.length-(r.length+1)=k:=by rw [hlen];simp
  simp only [zlc,mN,zba] at hB
  obtain ⟨⟨hr,hf⟩,hB'⟩:=hB
  unfold EvD at h
  rw [hk] at h
  have ho:o∈l:=List.mem_of_getElem? h0
  have rest:∀s',AdOK s'->LOK l s'->EvD P l md r s' K->AAny P l md K r.length (listed.setIfInBounds k true) s':=λs' hA' hL' h'=>
   AAny.lex r (k+1) _ _ (by rw [hlen];simp;omega) (λj=>by have:=hl (j+1);simpa [Nat.add_assoc,Nat.add_comm 1 j] using this) hA' hL' hB' h'
  cases hz:eB k md.z with
  |true=>
   rw [hz] at h
   obtain ⟨R,hR,hK⟩:=h
   exact AAny.alone h0 hz r.length listed s (lD h0 hf) (by simpa using hr) hR λx hx=>rest _ hA.turn (hLK.turn ho) (hK x hx)
  |false=>
   rw [hz] at h
   obtain ⟨T,hT,hK⟩:=h
   exact AAny.first h0 hz r.length listed s (lD h0 hf) hA hLK (by simpa using hr) hT (rest _ (hT.adOK hA) (hLK.step ho hT hA) hK)
theorem arB {id:Nat} {Q:Exit->St->Prop} {s:St} (hm:P.follows .mixedOrders=true) (hB:ahV l md=true) (hF:wO l s=true) (h:EvD P l md l s (Q .normal)):PWp P (.region id l.toArray true) Q s:=by
 intro c a w g lam hs
 refine wpIn_region_any hm ?_
 obtain ⟨h1,h2⟩:=mQ hs.mem (w.drawn+1) (Nat.le_succ _)
 have hs':=hs.world h1 (Le.refl g) (h2.mono λ_ h=>h.elim)
 have:=AAny.lex l 0 (Array.replicate l.length false) s (by simp) (by simp) hs.adOK (LOK.init hs.adOK hF) hB h
 have:=AAny.sound (Q:=λe a' w'=>∃s' g' lam',Q e s'/\SI P c s' a' w' g' lam') (λs a w g lam hk hs=>⟨s,g,lam,hk,hs⟩) _ _ _ _ _ _ _ hs' this
 simpa using this
end
end
section
inductive TK where
 |int (k:IntKind)
 |bool
 |str
 |slice (e:TypeId)
 |arr (n:Nat) (e:TypeId)
 |struct (fs:List (TypeId×Nat))
 |map (k e:TypeId)
 |other
structure TI where
 size:Nat
 agg:Bool
 z:List Value
 k:TK
 cmp:Bool
def nB (P:Program):Nat->TypeId->Bool
  |0,_=>false
  |d+1,t=>match P.underlying t with
    |some (.int _)|some .bool|some .string=>true
    | some (.struct fs) => !P.stoodInHeld t && fs.toList.all λf => f.name != "_" && nB P d f.type
    |some (.array _ e)=>nB P d e
    |_=>false
def fM (P:Program) (t:TypeId):TK:=
 match P.underlying t with
 |some (.int k)=> .int k
 |some .bool=> .bool
 |some .string=> .str
 |some (.slice e)=> .slice e
 |some (.array n e)=> .arr n e
 |some (.struct fs)=> .struct (fs.toList.map λf=>(f.type,f.offset))
 |some (.map k e)=> .map k e
 |_=> .other
def adM (P:Program):TypeDesc->Bool
 | .struct fs=>fs.toList.all λf=>(P.info? f.type).isSome
 |_=>true
def uT :Value->Bool
 | .agg _=>true
 |_=>false
def ayY (P:Program) (t:TypeId):Option TI:=
 match P.info? t with
 |some i=>match i.zero,P.underlying t with
  |some z,some d=>if adM P d&&(bD P t==uT z) then some {size:=i.size,agg:=bD P t,z:=z.cells.toList,k:=fM P t,cmp:=nB P 10 t&& !P.eqGuardType P.depth t} else none
  |_,_=>none
 |none=>none
abbrev TT :=List (Option TI)
def bC (P:Program) (tt:TT):Prop:=∀t i,tt[t]?=some (some i)->ayY P t=some i
theorem azQ {P:Program} {tt:TT} (h:(tt.zipIdx.map λx=>match x.1 with|none=>none|some _=>ayY P x.2)=tt):bC P tt:=by
 intro t i ht
 have h1:=ht
 rw [<-h] at h1
 simp only [List.getElem?_map,List.getElem?_zipIdx,ht] at h1
 simpa using h1
theorem jE {P:Program} {t:TypeId} {i:TI} (h:ayY P t=some i):
  (P.info? t).map (·.size)=some i.size/\bD P t=i.agg/\(P.underlying t).isSome=true/\(∃z,(P.info? t).bind (·.zero)=some z/\z.cells.toList=i.z/\uT z=i.agg)/\fM P t=i.k/\
   (i.cmp=true->nB P 10 t=true/\P.eqGuardType P.depth t=false)/\P.cellsOf t=i.size/\(∀fs,P.underlying t=some (.struct fs)->∀f∈fs.toList,(P.info? f.type).isSome=true):=by
 unfold ayY at h
 cases hi:P.info? t with
 |none=>rw [hi] at h;cases h
 |some inf=>
  rw [hi] at h
  simp only at h
  split at h
  ·rename_i z d hz hu
   split at h
   ·rename_i hf
    rw [zba] at hf
    obtain ⟨hf,hag⟩:=hf
    injection h with h
    subst h
    refine ⟨by simp,rfl,by simp [hu],⟨z,by simp [hz],rfl,(by simpa using hag:bD P t=uT z).symm⟩,rfl,by simp,by simp [Program.cellsOf,hi],λfs e f hf'=> ?_⟩
    rw [hu] at e
    injection e with e
    subst e
    simp only [adM,zal] at hf
    exact hf f hf'
   ·cases h
  ·cases h
def aO (tt:TT) (t:TypeId):Option Nat:=match tt[t]? with|some (some ⟨n,_,_,_,_⟩)=>some n|_=>none
def mF (tt:TT) (t:TypeId):Option Bool:=match tt[t]? with|some (some ⟨_,a,_,_,_⟩)=>some a|_=>none
def tiZ (tt:TT) (t:TypeId):Option (List Value):=match tt[t]? with|some (some ⟨_,_,z,_,_⟩)=>some z|_=>none
def tiK (tt:TT) (t:TypeId):Option TK:=match tt[t]? with|some (some ⟨_,_,_,k,_⟩)=>some k|_=>none
def aeY (tt:TT) (t:TypeId):Bool:=match tt[t]? with|some (some ⟨_,_,_,_,c⟩)=>c|_=>false
theorem aN {P:Program} {tt:TT} (h:bC P tt) {t n:Nat} (e:aO tt t=some n):(P.info? t).map (·.size)=some n/\P.cellsOf t=n:=by
 unfold aO at e;split at e
 ·rename_i x a z k c hx;injection e with e;subst e;have:=jE (h t _ hx);exact ⟨this.1,this.2.2.2.2.2.2.1⟩
 ·cases e
theorem bV {P:Program} {tt:TT} (h:bC P tt) {t:Nat} {a:Bool} (e:mF tt t=some a):bD P t=a/\(P.underlying t).isSome=true:=by
 unfold mF at e;split at e
 ·rename_i x a z k c hx;injection e with e;subst e;have:=jE (h t _ hx);exact ⟨this.2.1,this.2.2.1⟩
 ·cases e
theorem jO {P:Program} {tt:TT} (h:bC P tt) {t:Nat} {z:List Value} (e:tiZ tt t=some z):∃v,(P.info? t).bind (·.zero)=some v/\v.cells.toList=z:=by
 unfold tiZ at e;split at e
 ·rename_i x a z k c hx;injection e with e;subst e;obtain ⟨v,h1,h2,_⟩:=(jE (h t _ hx)).2.2.2.1;exact ⟨v,h1,h2⟩
 ·cases e
def pzv (tt:TT) (t:TypeId):Option PV:=
 match tt[t]? with
 |some (some ⟨_,true,z,_,_⟩)=>some (.agg (z.map .val))
 |some (some ⟨_,false,[z],_,_⟩)=>some (.val z)
 |_=>none
theorem ajI {P:Program} {tt:TT} (h:bC P tt) {t:Nat} {p:PV} (e:pzv tt t=some p):∃v,(P.info? t).bind (·.zero)=some v/\∀g,Rep g p v:=by
 unfold pzv at e;split at e
 ·rename_i n z k c hx
  injection e with e;subst e
  obtain ⟨v,h1,h2,h3⟩:=(jE (h t _ hx)).2.2.2.1
  refine ⟨v,h1,λg=> ?_⟩
  cases v<;>simp only [uT] at h3<;>first|cases h3;done|skip
  rename_i cs
  simp only [Rep]
  refine ⟨cs.toList,by simp, ?_⟩
  have h2':cs.toList=z:=h2
  rw [h2']
  clear h1 h2 h2' h3 hx
  induction z with
  |nil=>simp [RepL]
  |cons x xs ih=>simp only [zmp,RepL];exact ⟨x,xs,rfl,by simp [Rep],ih⟩
 ·rename_i n z k c hx
  injection e with e;subst e
  obtain ⟨v,h1,h2,h3⟩:=(jE (h t _ hx)).2.2.2.1
  refine ⟨v,h1,λg=> ?_⟩
  cases v<;>simp only [uT] at h3<;>first|cases h3;done|(simp [Value.cells] at h2;simp [Rep,h2])
 ·cases e
theorem aP {P:Program} {tt:TT} (h:bC P tt) {t:Nat} {k:TK} (e:tiK tt t=some k):fM P t=k/\(P.underlying t).isSome=true:=by
 unfold tiK at e;split at e
 ·rename_i x a z k c hx;injection e with e;subst e;have:=jE (h t _ hx);exact ⟨this.2.2.2.2.1,this.2.2.1⟩
 ·cases e
theorem awI {P:Program} {tt:TT} (h:bC P tt) {t:Nat} (e:aeY tt t=true):nB P 10 t=true/\P.eqGuardType P.depth t=false:=by
 unfold aeY at e;split at e
 ·rename_i x a z k c hx;have:=jE (h t _ hx);exact this.2.2.2.2.2.1 e
 ·cases e
theorem lX {P:Program} {t:TypeId} {k:IntKind} (h:fM P t= .int k):P.underlying t=some (.int k):=by
 unfold fM at h;split at h<;>simp_all
theorem bP {P:Program} {t e:TypeId} (h:fM P t= .slice e):P.underlying t=some (.slice e):=by
 unfold fM at h;split at h<;>simp_all
theorem jQ {P:Program} {t:TypeId} (h:fM P t= .str):P.underlying t=some .string:=by
 unfold fM at h;split at h<;>simp_all
theorem pK {P:Program} {t e n:Nat} (h:fM P t= .arr n e):P.underlying t=some (.array n e):=by
 unfold fM at h;split at h<;>simp_all
theorem vQ {P:Program} {t k e:Nat} (h:fM P t= .map k e):P.underlying t=some (.map k e):=by
 unfold fM at h;split at h<;>simp_all
theorem dM {P:Program} {t:TypeId} {fs:List (TypeId×Nat)} (h:fM P t= .struct fs):∃fields,P.underlying t=some (.struct fields)/\fields.toList.map (λf=>(f.type,f.offset))=fs:=by
 unfold fM at h;split at h<;>simp_all
theorem aM {P:Program} {o:Oper} {s:St} {p:PV}
  (h:∀w g (ρ:Operand->Value),MemOK P s.st w g->(∀x∈o.op.operands,fP g s x (ρ x))->∃v,(execOp ρ o).run P w= .ok (.value v) w/\Rep g p v):OpV P o s p:=
 λw g ρ hm hρ=>by
  obtain ⟨v,h1,h2⟩:=h w g ρ hm hρ
  rw [h1]
  exact ⟨g,h2,hm,Le.refl g,Frame.refl _ w g⟩
theorem aK {g:G} {u v:Value} (h:Rep g (.val u) v):v=u:=by simpa [Rep] using h
def lM :IntKind->IntKind->Bool
 | .i8, .i8| .i16, .i16| .i32, .i32| .i64, .i64| .u8, .u8| .u16, .u16| .u32, .u32| .u64, .u64=>true
 |_,_=>false
theorem fL {a b:IntKind} (h:lM a b=true):a=b:=by cases a<;>cases b<;>first|rfl|cases h
def aaN (f:TypeId->List PV->List PV->Option Bool) (sz:TypeId->Option Nat) (cs ds:List PV):List (TypeId×Nat)->Option Bool
  |[]=>some true
  |(t,off)::fs=>match sz t with
    |some n=>bif Nat.beq (bZ cs off n).length n&&Nat.beq (bZ ds off n).length n then
      match f t (bZ cs off n) (bZ ds off n) with
      |some a=>match fs with
        |[]=>some a
        |_::_=>match aaN f sz cs ds fs with
          |some b=>some (a&&b)
          |none=>none
      |none=>none
      else none
    |none=>none
def akI (e sz:Nat):Nat->Nat->List (TypeId×Nat)
 |_,0=>[]
 |i,n+1=>(e,i*sz)::akI e sz (i+1) n
theorem afR (e sz:Nat):∀(n i:Nat),akI e sz i n=(List.range' i n).map λj=>(e,j*sz)
 |0,_=>rfl
 |n+1,i=>by rw [akI,afR e sz n (i+1),List.range'_succ,zmp]
def peq (tt:TT):Nat->TypeId->List PV->List PV->Option Bool
 |0,_,_,_=>none
 |d+1,t,cs,ds=>match tiK tt t with
  |some (.int _)=>match cs,ds with
   |[.val (.int k a)],[.val (.int k' b)]=>bif lM k k' then some (decide (a=b)) else none
   |_,_=>none
  |some .bool=>match cs,ds with
   |[.val (.bool a)],[.val (.bool b)]=>some (a==b)
   |_,_=>none
  |some .str=>match cs,ds with
   |[.val (.string a)],[.val (.string b)]=>some (decide (a=b))
   |_,_=>none
  |some (.struct fs)=>aaN (peq tt d) (aO tt) cs ds fs
  |some (.arr n e)=>match aO tt e with
   |some sz=>aaN (peq tt d) (aO tt) cs ds (akI e sz 0 n)
   |none=>none
  |_=>none
def aAA (tt:TT) (op:BinOp) (T:TypeId):PV->PV->Option PV
 | .val (.int k a), .val (.int k' b)=>bif lM k k' then (match op with
   | .lss=>some (.val (.bool (decide (a<b))))
   | .leq=>some (.val (.bool (decide (a<=b))))
   | .gtr=>some (.val (.bool (decide (a>b))))
   | .geq=>some (.val (.bool (decide (a>=b))))
   | .eql=>some (.val (.bool (decide (a=b))))
   | .neq=>some (.val (.bool (!decide (a=b))))
   |_=>none) else none
 | .val (.bool a), .val (.bool b)=>match op,tiK tt T with
   | .eql,some .bool=>some (.val (.bool (a==b)))
   | .neq,some .bool=>some (.val (.bool (!(a==b))))
   |_,_=>none
 | .val (.string a), .val (.string b)=>match op with
   | .eql=>some (.val (.bool (decide (a=b))))
   | .neq=>some (.val (.bool (!decide (a=b))))
   | .lss=>some (.val (.bool (Op.bytesLess a.toList b.toList)))
   |_=>none
 | .agg cs, .agg ds=>bif aeY tt T&&(match mF tt T with|some true=>true|_=>false) then (match op with
   | .eql=>match peq tt 10 T cs ds with|some b=>some (.val (.bool b))|none=>none
   | .neq=>match peq tt 10 T cs ds with|some b=>some (.val (.bool (!b)))|none=>none
   |_=>none) else none
 |_,_=>none
theorem acC (a b:ByteArray):(a.toList==b.toList)=decide (a=b):=by
 rw [ByteArray.toList_eq,ByteArray.toList_eq]
 obtain ⟨⟨x⟩⟩:=a
 obtain ⟨⟨y⟩⟩:=b
 by_cases h:x=y
 ·subst h;simp
 ·have:¬(ByteArray.mk ⟨x⟩=ByteArray.mk ⟨y⟩):=λe=>h (by injection e with e;injection e)
  simp [h,this]
theorem iI {g:G} {p:PV} {vs:List Value} (h:RepL g [p] vs):∃v,vs=[v]/\Rep g p v:=by
 simp only [RepL] at h
 obtain ⟨v,vs',rfl,h1,rfl⟩:=h
 exact ⟨v,rfl,h1⟩
def VR (P:Program) (g:G) (t:TypeId) (cs:List PV) (x:Value):Prop:=
 (bD P t=true->∃xs:Array Value,x= .agg xs/\RepL g cs xs.toList)/\(bD P t=false->RepL g cs [x])
theorem mB {P:Program} {w:World} {g:G} {t:TypeId} {cs:List PV} {vs:Array Value} {off n:Nat} (hu:(P.underlying t).isSome=true) (hn:(P.info? t).map (·.size)=some n) (h:RepL g cs vs.toList)
  (hl:(bZ cs off n).length=n) (h1:bD P t=false->n=1):∃v,(part t vs off).run P w= .ok v w/\VR P g t (bZ cs off n) v:=by
 have hr:=(h.drop off).take n
 have hlen:=h.length
 cases ha:bD P t with
 |true=>
  refine ⟨.agg (vs.extract off (off+n)),by simp [part,cT ha hu,aX hn],⟨λ_=>⟨_,rfl, ?_⟩,λe=>absurd (ha.symm.trans e) (by simp)⟩⟩
  simp only [bZ,Array.toList_extract,List.extract_eq_take_drop]
  rw [show off+n-off=n from by omega]
  exact hr
 |false=>
  have hn1:=h1 ha
  subst hn1
  have hlt:off<vs.size:=by simp [bZ] at hl hlen;omega
  refine ⟨vs[off],by simp [part,cT ha hu,hlt],⟨λe=>absurd (ha.symm.trans e) (by simp),λ_=> ?_⟩⟩
  have:(vs.toList.drop off).take 1=[vs[off]]:=by
   rw [List.drop_eq_getElem_cons (by simpa using hlt)]
   simp
  rw [this] at hr
  exact hr
theorem wP {P:Program} {tt:TT} (htt:bC P tt) {w:World} {g:G} {d n:Nat}
    (ih:∀t cs ds x y b,peq tt d t cs ds=some b->nB P d t=true->VR P g t cs x->VR P g t ds y->(Op.equalIn n t x y).run P w= .ok b w)
    {cs ds:List PV} {xs ys:Array Value} (hx:RepL g cs xs.toList) (hy:RepL g ds ys.toList):∀(fs:List Field) (b:Bool),aaN (peq tt d) (aO tt) cs ds (fs.map λf=>(f.type,f.offset))=some b->
      (fs.all λf => f.name != "_" && nB P d f.type) = true -> (Op.eqFields n xs ys fs).run P w = .ok b w
  |[],b,h,_=>by simp [aaN] at h;subst h;rfl
  |f::fs,b,h,hc=>by
    simp only [List.all_cons,zba] at hc
    obtain ⟨⟨hc1,hc2⟩,hc3⟩:=hc
    simp only [zmp,aaN] at h
    split at h
    case h_2=>cases h
    rename_i k hk
    have hlen:(bZ cs f.offset k).length=k/\(bZ ds f.offset k).length=k:=by
      cases hb:(Nat.beq (bZ cs f.offset k).length k&&Nat.beq (bZ ds f.offset k).length k) with
      |false=>rw [hb] at h;simp at h
      |true=>
        rw [zba] at hb
        exact ⟨Nat.eq_of_beq_eq_true hb.1,Nat.eq_of_beq_eq_true hb.2⟩
    rw [show (Nat.beq (bZ cs f.offset k).length k&&Nat.beq (bZ ds f.offset k).length k)=true from by rw [hlen.1,hlen.2];simp] at h
    simp only [zqt] at h
    split at h
    case h_2=>cases h
    rename_i a ha
    obtain ⟨k1,k2⟩:=aN htt hk
    have hu:(P.underlying f.type).isSome=true:=by
      cases d with
      |zero=>simp [nB] at hc2
      |succ d=>simp only [nB] at hc2;cases hh:P.underlying f.type with
        |none=>rw [hh] at hc2;cases hc2
        |some _=>rfl
    have key:bD P f.type=false->k=1:=by
      intro hag
      cases d with
      |zero=>simp [peq] at ha
      |succ d=>
        simp only [peq] at ha
        split at ha
        · split at ha
          · rename_i e1 e2;rw [e1] at hlen;simpa using hlen.1.symm
          · cases ha
        · split at ha
          · rename_i e1 e2;rw [e1] at hlen;simpa using hlen.1.symm
          · cases ha
        · split at ha
          · rename_i e1 e2;rw [e1] at hlen;simpa using hlen.1.symm
          · cases ha
        · rename_i fs' hk'
          obtain ⟨fields,e1,e2⟩:=dM (aP htt hk').1
          simp [bD,e1] at hag
        · rename_i n' e' hk'
          have e1:=pK (aP htt hk').1
          simp [bD,e1] at hag
        · cases ha
    obtain ⟨x,x1,x2⟩:=mB (w:=w) hu k1 hx hlen.1 key
    obtain ⟨y,y1,y2⟩:=mB (w:=w) hu k1 hy hlen.2 key
    have hrun:=ih f.type _ _ x y a ha hc2 x2 y2
    have hne : f.name ≠ "_" := by simpa using hc1
    have step:∀r:Bool,(a=true->(Op.eqFields n xs ys fs).run P w= .ok r w)->(a=false->r=false)->(Op.eqFields n xs ys (f::fs)).run P w= .ok r w:=by
      intro r h1 h2
      simp only [Op.eqFields,ne_eq,hne,not_false_eq_true,if_true,Sem.run_bind,x1,y1,hrun,Result.andThen_ok]
      cases a with
      |false=>simp [h2 rfl]
      |true=>simpa using h1 rfl
    cases fs with
    |nil=>
      simp at h
      subst h
      exact step a (λe=>by subst e;rfl) (λe=>e)
    |cons f2 fs2=>
      simp only [zmp] at h
      split at h
      case h_2=>cases h
      rename_i b' hb'
      injection h with h
      subst h
      have:=wP htt ih hx hy (f2::fs2) b' (by simpa using hb') hc3
      refine step (a&&b') (λe=>by subst e;simpa using this) (λe=>by subst e;rfl)
theorem xP {P:Program} {tt:TT} (htt:bC P tt) {w:World} {g:G} {d n:Nat}
  (ih:∀t cs ds x y b,peq tt d t cs ds=some b->nB P d t=true->VR P g t cs x->VR P g t ds y->(Op.equalIn n t x y).run P w= .ok b w)
  {cs ds:List PV} {xs ys:Array Value} (hx:RepL g cs xs.toList) (hy:RepL g ds ys.toList):∀{e sz:Nat} (is:List Nat) (b:Bool),aaN (peq tt d) (aO tt) cs ds (is.map λi=>(e,i*sz))=some b->aO tt e=some sz->
   nB P d e=true->(Op.eqItems n e sz xs ys is).run P w= .ok b w
 |_,_,[],b,h,_,_=>by simp [aaN] at h;subst h;rfl
 |e,sz,f::fs,b,h,hsz,hc2=>by
  simp only [zmp,aaN] at h
  split at h
  case h_2=>cases h
  rename_i k hk
  have hlen:(bZ cs (f*sz) k).length=k/\(bZ ds (f*sz) k).length=k:=by
   cases hb:(Nat.beq (bZ cs (f*sz) k).length k&&Nat.beq (bZ ds (f*sz) k).length k) with
   |false=>rw [hb] at h;simp at h
   |true=>
    rw [zba] at hb
    exact ⟨Nat.eq_of_beq_eq_true hb.1,Nat.eq_of_beq_eq_true hb.2⟩
  rw [show (Nat.beq (bZ cs (f*sz) k).length k&&Nat.beq (bZ ds (f*sz) k).length k)=true from by rw [hlen.1,hlen.2];simp] at h
  simp only [zqt] at h
  split at h
  case h_2=>cases h
  rename_i a ha
  obtain ⟨k1,k2⟩:=aN htt hk
  have hu:(P.underlying e).isSome=true:=by
   cases d with
   |zero=>simp [nB] at hc2
   |succ d=>simp only [nB] at hc2;cases hh:P.underlying e with
    |none=>rw [hh] at hc2;cases hc2
    |some _=>rfl
  have key:bD P e=false->k=1:=by
   intro hag
   cases d with
   |zero=>simp [peq] at ha
   |succ d=>
    simp only [peq] at ha
    split at ha
    ·split at ha
     ·rename_i e1 e2;rw [e1] at hlen;simpa using hlen.1.symm
     ·cases ha
    ·split at ha
     ·rename_i e1 e2;rw [e1] at hlen;simpa using hlen.1.symm
     ·cases ha
    ·split at ha
     ·rename_i e1 e2;rw [e1] at hlen;simpa using hlen.1.symm
     ·cases ha
    ·rename_i fs' hk'
     obtain ⟨fields,e1,e2⟩:=dM (aP htt hk').1
     simp [bD,e1] at hag
    ·rename_i n' e' hk'
     have e1:=pK (aP htt hk').1
     simp [bD,e1] at hag
    ·cases ha
  obtain ⟨x,x1,x2⟩:=mB (w:=w) hu k1 hx hlen.1 key
  obtain ⟨y,y1,y2⟩:=mB (w:=w) hu k1 hy hlen.2 key
  have hrun:=ih e _ _ x y a ha hc2 x2 y2
  have step:∀r:Bool,(a=true->(Op.eqItems n e sz xs ys fs).run P w= .ok r w)->(a=false->r=false)->(Op.eqItems n e sz xs ys (f::fs)).run P w= .ok r w:=by
   intro r h1 h2
   have hkz:k=sz:=by rw [hsz] at hk;injection hk with hk;exact hk.symm
   simp only [Op.eqItems,Sem.run_bind,x1,y1,hrun,Result.andThen_ok]
   cases a with
   |false=>simp [h2 rfl]
   |true=>simpa using h1 rfl
  cases fs with
  |nil=>
   simp at h
   subst h
   exact step a (λe=>by subst e;rfl) (λe=>e)
  |cons f2 fs2=>
   simp only [zmp] at h
   split at h
   case h_2=>cases h
   rename_i b' hb'
   injection h with h
   subst h
   have:=xP htt ih hx hy (f2::fs2) b' (by simpa using hb') hsz hc2
   refine step (a&&b') (λe=>by subst e;simpa using this) (λe=>by subst e;rfl)
theorem kN {P:Program} {tt:TT} (htt:bC P tt) {w:World} {g:G}:∀(d n:Nat),d<=n->∀t cs ds x y b,peq tt d t cs ds=some b->nB P d t=true->VR P g t cs x->VR P g t ds y->(Op.equalIn n t x y).run P w= .ok b w
 |0,_,_,t,cs,ds,x,y,b,h,_,_,_=>by simp [peq] at h
 |d+1,0,hn,_,_,_,_,_,_,_,_,_,_=>by omega
 |d+1,n+1,hn,t,cs,ds,x,y,b,h,hc,hx,hy=>by
  simp only [peq] at h
  split at h
  ·rename_i k hk
   have hu:=lX (aP htt hk).1
   have hag:bD P t=false:=by simp [bD,hu]
   split at h
   ·rename_i k1 a1 k2 a2
    obtain ⟨v,e1,e2⟩:=iI (hx.2 hag)
    obtain ⟨v',e1',e2'⟩:=iI (hy.2 hag)
    injection e1 with e1 _
    injection e1' with e1' _
    rw [e1,e1',aK e2,aK e2']
    cases hk':lM k1 k2 with
    |false=>rw [hk'] at h;simp at h
    |true=>
     rw [hk'] at h
     have:=fL hk'
     subst this
     simp at h
     subst h
     rw [run_equalIn_int w n t k1 k a1 a2 hu]
     rfl
   ·cases h
  ·rename_i hk
   have hu:P.underlying t=some .bool:=by
    have:=(aP htt hk).1;unfold fM at this;split at this<;>simp_all
   have hag:bD P t=false:=by simp [bD,hu]
   split at h
   ·obtain ⟨v,e1,e2⟩:=iI (hx.2 hag)
    obtain ⟨v',e1',e2'⟩:=iI (hy.2 hag)
    injection e1 with e1 _
    injection e1' with e1' _
    rw [e1,e1',aK e2,aK e2']
    injection h with h
    subst h
    exact run_equalIn_bool w n t _ _ hu
   ·cases h
  ·rename_i hk
   have hu:=jQ (aP htt hk).1
   have hag:bD P t=false:=by simp [bD,hu]
   split at h
   ·obtain ⟨v,e1,e2⟩:=iI (hx.2 hag)
    obtain ⟨v',e1',e2'⟩:=iI (hy.2 hag)
    injection e1 with e1 _
    injection e1' with e1' _
    rw [e1,e1',aK e2,aK e2']
    injection h with h
    subst h
    rw [run_equalIn_string w n t _ _ hu,acC]
   ·cases h
  ·rename_i fs hk
   obtain ⟨fields,hu,hfs⟩:=dM (aP htt hk).1
   have hag:bD P t=true:=by simp [bD,hu]
   obtain ⟨xs,rfl,hx'⟩:=hx.1 hag
   obtain ⟨ys,rfl,hy'⟩:=hy.1 hag
   simp only [nB,hu,zba] at hc
   have hst:P.stoodInHeld t=false:=by simpa using hc.1
   have hfo:P.fieldsOf t=fields:=by simp [Program.fieldsOf,hu]
   rw [run_equalIn_struct w n t xs ys (by rw [hfo];exact hu) hst,hfo]
   exact wP htt (λt' cs' ds' x' y' b' h1 h2 h3 h4=>kN htt d n (by omega) t' cs' ds' x' y' b' h1 h2 h3 h4) hx' hy' fields.toList b (by rw [hfs];exact h) hc.2
  ·rename_i m e hk
   have hu:=pK (aP htt hk).1
   have hag:bD P t=true:=by simp [bD,hu]
   obtain ⟨xs,rfl,hx'⟩:=hx.1 hag
   obtain ⟨ys,rfl,hy'⟩:=hy.1 hag
   simp only [nB,hu] at hc
   split at h
   ·rename_i sz hsz
    obtain ⟨k1,k2⟩:=aN htt hsz
    obtain ⟨ie,hie⟩:∃i,P.info? e=some i:=by
     cases hh:P.info? e with
     |none=>rw [hh] at k1;cases k1
     |some i=>exact ⟨i,rfl⟩
    rw [run_equalIn_array (w:=w) n xs ys hu hie,k2]
    rw [afR,<-List.range_eq_range'] at h
    exact xP htt (λt' cs' ds' x' y' b' h1 h2 h3 h4=>kN htt d n (by omega) t' cs' ds' x' y' b' h1 h2 h3 h4) hx' hy' (List.range m) b h hsz hc
   ·cases h
  ·cases h
theorem dV {P:Program} {w:World} {ρ:Operand->Value} {o:Oper} {op:BinOp} {T T2:TypeId} {x y:Operand} {v:Value} (ho:o.op= .binOp op T x y T2)
  (h1:(eqGuard op T x y (ρ x) (ρ y)).run P w= .ok () w) (h2:(binOp op T (ρ x) (ρ y)).run P w= .ok v w):(execOp ρ o).run P w= .ok (.value v) w:=by
 simp only [execOp,ho,Sem.run_bind,h1,h2,Result.andThen_ok,Sem.run_pure]
theorem abQ {P:Program} {g:G} {t:TypeId} {cs:List PV} {x:Value} (h:Rep g (.agg cs) x) (ht:bD P t=true):VR P g t cs x:=by
 simp only [Rep] at h
 obtain ⟨vs,rfl,h⟩:=h
 exact ⟨λ_=>⟨vs.toArray,rfl,by simpa using h⟩,λe=>absurd (ht.symm.trans e) (by simp)⟩
theorem azV {P:Program} {tt:TT} (htt:bC P tt) {o:Oper} {s:St} {op:BinOp} {T T2:TypeId} {x y:Operand} {a b p:PV} (ho:o.op= .binOp op T x y T2) (hx:opd s x=some a) (hy:opd s y=some b) (h:aAA tt op T a b=some p):OpV P o s p:=by
 refine aM λw g ρ _ hρ=> ?_
 have rx:=hρ x (by rw [ho];simp [Op.operands]) a hx
 have ry:=hρ y (by rw [ho];simp [Op.operands]) b hy
 unfold aAA at h
 split at h
 ·rename_i k x' k' y'
  have ex:=aK rx
  have ey:=aK ry
  cases hk:lM k k' with
  |false=>rw [hk] at h;simp at h
  |true=>
   rw [hk] at h
   have:=fL hk
   subst this
   simp only [zqt] at h
   refine ⟨?_, ?_⟩
   ·exact match op with
    | .lss=> .bool (decide (x'<y'))| .leq=> .bool (decide (x'<=y'))| .gtr=> .bool (decide (x'>y'))| .geq=> .bool (decide (x'>=y'))| .eql=> .bool (decide (x'=y'))| .neq=> .bool (!decide (x'=y'))|_=> .bool true
   ·cases op<;>simp only [reduceCtorEq,Option.some.injEq] at h<;>(try (cases h;done))<;>subst h<;>refine ⟨dV ho ?_ ?_,by simp [Rep]⟩<;>rw [ex,ey]<;>simp [eqGuard,binOp,Op.intCmp,bne]<;>rfl
 ·rename_i x' y'
  have ex:=aK rx
  have ey:=aK ry
  have hu:tiK tt T=some .bool->P.underlying T=some .bool:=λhk=>by
   have:=(aP htt hk).1;unfold fM at this;split at this<;>simp_all
  split at h
  ·rename_i hk
   injection h with h;subst h
   refine ⟨.bool (x'==y'),dV ho (by rw [ex,ey];simp [eqGuard]) ?_,by simp [Rep]⟩
   rw [ex,ey]
   simp [binOp,run_equal_bool w T x' y' (hu hk)]
  ·rename_i hk
   injection h with h;subst h
   refine ⟨.bool (!(x'==y')),dV ho (by rw [ex,ey];simp [eqGuard]) ?_,by simp [Rep]⟩
   rw [ex,ey]
   simp [binOp,run_equal_bool w T x' y' (hu hk)]
  ·cases h
 ·rename_i x' y'
  have ex:=aK rx
  have ey:=aK ry
  split at h
  ·injection h with h;subst h
   refine ⟨.bool (decide (x'=y')),dV ho (by rw [ex,ey];simp [eqGuard]) ?_,by simp [Rep]⟩
   rw [ex,ey,<-acC];simp [binOp,Op.stringOp]
  ·injection h with h;subst h
   refine ⟨.bool (!decide (x'=y')),dV ho (by rw [ex,ey];simp [eqGuard]) ?_,by simp [Rep]⟩
   rw [ex,ey,<-acC];simp [binOp,Op.stringOp]
  ·injection h with h;subst h
   refine ⟨.bool (Op.bytesLess x'.toList y'.toList),dV ho (by rw [ex,ey];simp [eqGuard]) ?_,by simp [Rep]⟩
   rw [ex,ey];simp [binOp,Op.stringOp]
  ·cases h
 ·rename_i cs ds
  cases hc0:(aeY tt T&&(match mF tt T with|some true=>true|_=>false)) with
  |false=>rw [hc0] at h;simp at h
  |true=>
   rw [hc0] at h
   simp only [zqt] at h
   rw [zba] at hc0
   have hc:=hc0.1
   have hag':bD P T=true:=by
    have h2:=hc0.2
    split at h2
    ·rename_i hh;exact (bV htt hh).1
    ·cases h2
   obtain ⟨c1,c2⟩:=awI htt hc
   have hx':=abQ (P:=P) (t:=T) rx hag'
   have hy':=abQ (P:=P) (t:=T) ry hag'
   obtain ⟨xs,ex,_⟩:=hx'.1 hag'
   obtain ⟨ys,ey,_⟩:=hy'.1 hag'
   split at h
   ·split at h
    ·rename_i r hr
     injection h with h;subst h
     have:=kN htt (w:=w) 10 10000 (by omega) T cs ds _ _ r hr c1 hx' hy'
     refine ⟨.bool r,dV ho (by rw [ex,ey];exact run_eqGuard_agg w _ T x y xs ys c2) ?_,by simp [Rep]⟩
     rw [ex,ey] at this⊢
     rw [run_eql_struct,this];rfl
    ·cases h
   ·split at h
    ·rename_i r hr
     injection h with h;subst h
     have:=kN htt (w:=w) 10 10000 (by omega) T cs ds _ _ r hr c1 hx' hy'
     refine ⟨.bool (!r),dV ho (by rw [ex,ey];exact run_eqGuard_agg w _ T x y xs ys c2) ?_,by simp [Rep]⟩
     rw [ex,ey] at this⊢
     rw [run_neq_struct,this];rfl
    ·cases h
   ·cases h
 ·cases h
def fW {α:Type}:List PV->(List PV->Option α)->Option α
 |[],k=>k []
 |p::ps,k=>fW ps λqs=>k (p::qs)
theorem bY {α:Type}:∀(l:List PV) (k:List PV->Option α),fW l k=k l
 |[],_=>rfl
 |p::ps,k=>by simp only [fW];exact bY ps _
def jG (tt:TT) (place:Nat->Option (Nat×Nat)) (s:St) (cells:List PV):List (Nat×Operand)->Option (List PV)
  |[]=>some cells
  |(i,x)::rest=>match place i,opd s x with
    |some (off,n),some p=>bif p.flat&&Nat.beq p.cells.length n&&Nat.ble (off+n) cells.length then jG tt place s (fE cells off p.cells) rest else none
    |_,_=>none
def aiB (tt:TT) (fs:List (TypeId×Nat)) (i:Nat):Option (Nat×Nat):=
 match fs[i]? with
 |some (t,off)=>match aO tt t with
  |some n=>some (off,n)
  |none=>none
 |none=>none
def acJ (tt:TT) (s:St) (T:TypeId) (ps:List (Nat×Operand)):Option PV:=
 match tiK tt T,tiZ tt T with
 |some (.struct fs),some z=>match jG tt (aiB tt fs) s (z.map .val) ps with
  |some cs=>fW cs λcs=>some (.agg cs)
  |none=>none
 |some (.arr _ e),some z=>match aO tt e with
  |some n=>match jG tt (λi=>some (i*n,n)) s (z.map .val) ps with
   |some cs=>fW cs λcs=>some (.agg cs)
   |none=>none
  |none=>none
 |_,_=>none
theorem xM (off:Nat):∀(us:List Value) (k:Nat) (cs:Array Value),off+k+us.length<=cs.size->((us.zipIdx k).foldl (λcs (x:Value×Nat)=>cs.setIfInBounds (off+x.2) x.1) cs).toList=cs.toList.take (off+k)++us++cs.toList.drop (off+k+us.length)
 |[],k,cs,_=>by simp
 |u::us,k,cs,h=>by
  simp only [zlc] at h
  rw [List.zipIdx_cons,List.foldl_cons,xM off us (k+1) _ (by simp;omega)]
  have:=list_seg_step cs.toList (off+k) u us (by simp;omega)
  simp only [Array.toList_setIfInBounds]
  rw [show off+(k+1)=off+k+1 from by omega,this]
  simp
theorem qK {tt:TT} {g:G} {s:St} {place:Nat->Option (Nat×Nat)} {place':Nat->Option (Nat×Nat)} (hpl:∀i x,place i=some x->place' i=some x) {ρ:Operand->Value}:∀(ps:List (Nat×Operand)) (cells:List PV) (cs:List PV) (vs:Array Value),
    jG tt place s cells ps=some cs->RepL g cells vs.toList->(∀x∈ps.map (·.2),fP g s x (ρ x))->∃us,Instr.fill place' vs (ps.map λ(i,x)=>(i,ρ x))=some us/\RepL g cs us.toList
  |[],cells,cs,vs,h,hr,_=>by simp [jG] at h;subst h;exact ⟨vs,rfl,hr⟩
  |(i,x)::rest,cells,cs,vs,h,hr,hρ=>by
    simp only [jG] at h
    split at h
    case h_2=>cases h
    rename_i off n p hp hx
    cases hb:(p.flat&&Nat.beq p.cells.length n&&Nat.ble (off+n) cells.length) with
    |false=>rw [hb] at h;simp at h
    |true=>
      rw [hb] at h
      simp only [zqt] at h
      simp only [zba] at hb
      obtain ⟨⟨hb1,hb2⟩,hb3⟩:=hb
      have hb2:=Nat.eq_of_beq_eq_true hb2
      have hb3:=Nat.le_of_ble_eq_true hb3
      obtain ⟨m1,m2⟩:=(hρ x (by simp) p hx).cells hb1
      have l1:=m1.length
      have l2:=hr.length
      have hsz:(ρ x).cells.size=n:=by rw [<-hb2];simpa using l1
      simp only [zmp,Instr.fill,hpl i _ hp,hsz]
      have hnot:¬(n≠n||decide (off+n>vs.size))=true:=by simp at l2⊢;omega
      rw [zn (by simpa using hnot)]
      refine qK hpl rest (fE cells off p.cells) cs _ h ?_ (λy hy=>hρ y (by simp at hy⊢;exact .inr hy))
      have:=xM off (ρ x).cells.toList 0 vs (by simp at l2⊢;omega)
      simp only [Nat.add_zero] at this
      have e:((ρ x).cells.zipIdx.foldl (λcs (x:Value×Nat)=>cs.setIfInBounds (off+x.2) x.1) vs).toList=vs.toList.take off++(ρ x).cells.toList++vs.toList.drop (off+p.cells.length):=by
        rw [<-Array.foldl_toList,Array.toList_zipIdx,this]
        simp [hsz,hb2]
      have e2:RepL g (fE cells off p.cells) (vs.toList.take off++(ρ x).cells.toList++vs.toList.drop (off+p.cells.length)):=by
        rw [eT cells off p.cells (by omega)]
        exact ((hr.take off).append m1).append (hr.drop _)
      rw [<-e] at e2
      exact e2
theorem amO {P:Program} {tt:TT} (h:bC P tt) {t:Nat} {k:TK} (e:tiK tt t=some k):∀fs,P.underlying t=some (.struct fs)->∀f∈fs.toList,(P.info? f.type).isSome=true:=by
 unfold tiK at e;split at e
 ·rename_i x a z k c hx;have:=jE (h t _ hx);exact this.2.2.2.2.2.2.2
 ·cases e
theorem vE {P:Program} {w:World}:∀(fs:List Field),(∀f∈fs,(P.info? f.type).isSome=true)->
  (fs.mapM λf=>do pure (f.offset,<-sizeOf f.type):Sem (List (Nat×Nat))).run P w= .ok (fs.map λf=>(f.offset,P.cellsOf f.type)) w
 |[],_=>by simp
 |f::fs,h=>by
  have h1:=h f (by simp)
  have hs:(sizeOf f.type).run P w= .ok (P.cellsOf f.type) w:=aX (by
   cases hi:P.info? f.type with
   |none=>rw [hi] at h1;cases h1
   |some i=>simp [Program.cellsOf,hi])
  have ih:=vE (w:=w) fs (λg hg=>h g (by simp [hg]))
  rw [List.mapM_cons]
  simp only [Sem.run_bind,Sem.run_pure,hs,Result.andThen_ok,ih]
  rfl
theorem amZ {P:Program} {tt:TT} (htt:bC P tt) {o:Oper} {s:St} {T:TypeId} {ps:List (Nat×Operand)} {p:PV} (ho:o.op= .build T ps.toArray) (h:acJ tt s T ps=some p):OpV P o s p:=by
 refine aM λw g ρ _ hρ=> ?_
 have hops:∀x∈ps.map (·.2),fP g s x (ρ x):=λx hx=>hρ x (by rw [ho];simpa [Op.operands] using hx)
 unfold acJ at h
 split at h
 ·rename_i fs z hk hz
  split at h
  case h_2=>cases h
  rename_i cs hcs
  rw [bY] at h
  injection h with h;subst h
  obtain ⟨fields,hu,hfs⟩:=dM (aP htt hk).1
  obtain ⟨zv,hz1,hz2⟩:=jO htt hz
  have hpl:∀i x,aiB tt fs i=some x->((fields.toList.map λf=>(f.offset,P.cellsOf f.type)).toArray[·]?) i=some x:=by
   intro i x hx
   unfold aiB at hx
   split at hx
   ·rename_i t off hi
    split at hx
    ·rename_i n hn
     injection hx with hx;subst hx
     rw [<-hfs] at hi
     simp only [List.getElem?_map] at hi
     cases hf:fields.toList[i]? with
     |none=>rw [hf] at hi;cases hi
     |some f=>
      rw [hf] at hi
      simp at hi
      have:=(aN htt hn).2
      have hf':fields[i]?=some f:=by simpa using hf
      simp [hf',hi,this]
    ·cases hx
   ·cases hx
  have hz0:RepL g (z.map .val) zv.cells.toList:=by rw [hz2];exact RepL.vals z
  obtain ⟨us,h1,h2⟩:=qK hpl (ρ:=ρ) ps _ cs zv.cells hcs hz0 hops
  refine ⟨.agg us, ?_,by simp only [Rep];exact ⟨us.toList,by simp,h2⟩⟩
  have hm:=vE (P:=P) (w:=w) fields.toList (amO htt hk fields hu)
  have hm':(fields.mapM λf=>do pure (f.offset,<-sizeOf f.type):Sem (Array (Nat×Nat))).run P w= .ok (fields.toList.map λf=>(f.offset,P.cellsOf f.type)).toArray w:=by
   rw [Array.mapM_eq_mapM_toList]
   simp only [Sem.run_map,hm,Result.andThen_ok]
  have h1':Instr.fill (λx=>Option.map (λf=>(f.offset,P.cellsOf f.type)) fields[x]?) zv.cells (ps.map λx=>(x.fst,ρ x.snd))=some us:=by
   rw [<-h1];congr 1;funext x;simp
  simp only [execOp,ho,Instr.build,Sem.run_bind,bU hz1,run_underlying hu,Result.andThen_ok,hm',Sem.run_pure]
  simp [h1']
 ·rename_i n e z hk hz
  split at h
  case h_2=>cases h
  rename_i m hm
  split at h
  case h_2=>cases h
  rename_i cs hcs
  rw [bY] at h
  injection h with h;subst h
  have hu:=pK (aP htt hk).1
  obtain ⟨zv,hz1,hz2⟩:=jO htt hz
  have hz0:RepL g (z.map .val) zv.cells.toList:=by rw [hz2];exact RepL.vals z
  obtain ⟨us,h1,h2⟩:=qK (place':=λi=>some (i*m,m)) (λi x hx=>hx) (ρ:=ρ) ps _ cs zv.cells hcs hz0 hops
  refine ⟨.agg us, ?_,by simp only [Rep];exact ⟨us.toList,by simp,h2⟩⟩
  simp only [execOp,ho,Instr.build,Sem.run_bind,bU hz1,run_underlying hu,Result.andThen_ok,aX (aN htt hm).1,Sem.run_pure]
  simp only [List.map_toArray] at h1⊢
  simp [h1]
 ·cases h
def arD (tt:TT) (cs:List PV) (t off:Nat):Option PV:=
 match mF tt t,aO tt t with
 |some true,some n=>bif Nat.ble (off+n) cs.length then fW (bZ cs off n) λds=>some (.agg ds) else none
 |some false,some _=>cs[off]?
 |_,_=>none
theorem avV {P:Program} {tt:TT} (htt:bC P tt) {w:World} {g:G} {cs:List PV} {t off:Nat} {p:PV} (h:arD tt cs t off=some p) {vs:Array Value} (hr:RepL g cs vs.toList):
  ∃v,(part t vs off).run P w= .ok v w/\Rep g p v:=by
 unfold arD at h
 have hl:=hr.length
 split at h
 ·rename_i n ha hn
  cases hb:Nat.ble (off+n) cs.length with
  |false=>rw [hb] at h;simp at h
  |true=>
   rw [hb] at h
   simp only [zqt,bY] at h
   injection h with h;subst h
   have hb:=Nat.le_of_ble_eq_true hb
   obtain ⟨v,h1,h2⟩:=mB (w:=w) (bV htt ha).2 (aN htt hn).1 hr (off:=off) (by simp [bZ];omega) (λe=>absurd ((bV htt ha).1.symm.trans e) (by simp))
   obtain ⟨xs,rfl,h3⟩:=h2.1 (bV htt ha).1
   exact ⟨_,h1,by simp only [Rep];exact ⟨xs.toList,by simp,h3⟩⟩
 ·rename_i n ha hn
  obtain ⟨v,e1,e2⟩:=hr.get h
  have e1':vs[off]?=some v:=by simpa using e1
  exact ⟨v,by simp [part,cT (bV htt ha).1 (bV htt ha).2,e1'],e2⟩
 ·cases h
def aCO (p:PV):Option Nat:=
 match p with
 | .seq rows=>some rows.length
 | .own _ rows=>some rows.length
 | .vec _ _ _ n=>some n
 | .val (.string b)=>some b.size
 | .val (.slice none 0 0)=>some 0
 | .emp=>some 0
 |_=>none
def ahK (tt:TT) (T:TypeId):Bool:=match tiK tt T with|some .str=>true|_=>false
def cG (tt:TT) (T:TypeId):Bool:=match tiK tt T with|some (.slice _)=>true|_=>false
def lenT (tt:TT) (T:TypeId) (p:PV):Option Nat:=
 match p with
 | .val (.string b)=>bif ahK tt T then some b.size else none
 |p=>bif cG tt T then aCO p else none
def axI (f:Int->Int->Int):List PV->Option PV
 |[.val (.int k a), .val (.int k' b)]=>bif lM k k' then some (.val (.int k (f a b))) else none
 |[.val (.int k a), .val (.int k' b), .val (.int k'' c)]=>bif lM k k'&&lM k k'' then some (.val (.int k (f (f a b) c))) else none
 |_=>none
def lL (s:St):List Operand->Option (List PV)
 |[]=>some []
 |x::xs=>match opd s x,lL s xs with
  |some p,some ps=>some (p::ps)
  |_,_=>none
def asO (tt:TT) (s:St) (b:Builtin) (args:List Operand) (ts:List TypeId):Option PV:=
 match b,args,ts with
 | .len,[x],[T]=>match opd s x with
  |some p=>match lenT tt T p with
   |some n=>some (.val (.int .i64 n))
   |none=>none
  |none=>none
 | .max,xs,_=>match lL s xs with|some ps=>axI max ps|none=>none
 | .min,xs,_=>match lL s xs with|some ps=>axI min ps|none=>none
 |_,_,_=>none
def agX (p:PV) (off:Nat):Option PV:=
 match p with
 | .rp cs=>fW (cs.drop off) λds=>some (.rp ds)
 | .ref id o=>some (.ref id (o+off))
 | .el id sz j o=>some (.el id sz j (o+off))
 |_=>none
def wJ (tt:TT) (s:St):Op->Option PV
 | .move x=>opd s x
 | .assign x=>opd s x
 | .binOp op T x y _=>match opd s x,opd s y with
  |some a,some b=>aAA tt op T a b
  |_,_=>none
 | .unOp .not _ x=>match opd s x with
  |some (.val (.bool b))=>some (.val (.bool (!b)))
  |_=>none
 | .extract x i=>match opd s x with
  |some (.tup cs)=>cs[i]?
  |_=>none
 | .field T x f=>match opd s x,tiK tt T with
  |some (.agg cs),some (.struct fs)=>match fs[f]? with
   |some (t,off)=>arD tt cs t off
   |none=>none
  |_,_=>none
 | .build T ps=>acJ tt s T ps.toList
 | .call ⟨.builtin b,args,ts⟩=>asO tt s b args.toList ts.toList
 | .makeFunc (.func f) first caps=>match first.toList,lL s caps.toList with
  |[],some ps=>some (.fn f ps)
  |_,_=>none
 | .fieldAddr T x f=>match opd s x,tiK tt T with
  |some p,some (.struct fs)=>match fs[f]? with
   |some (t,off)=>match aO tt t with
    |some (_+1)=>agX p off
    |_=>none
   |none=>none
  |_,_=>none
 | .load T x=>match opd s x,mF tt T,aO tt T with
  |some (.rp cs),some true,some n=>bif Nat.ble n cs.length then fW (cs.take n) λds=>some (.agg ds) else none
  |some (.rp (c::_)),some false,some _=>some c
  |_,_,_=>none
 |_=>none
theorem RepA.vals {g:G} {b:Nat}:∀{cs:List PV} {off:Nat},RepA g b off cs->∃vs,RepL g cs vs/\∀j v,vs[j]?=some v->aS g.heap b (off+j)=some v
 |[],_,_=>⟨[],by simp [RepL],by simp⟩
 |c::cs,off,h=>by
  simp only [RepA] at h
  obtain ⟨⟨v,h1,h2,h3⟩,h4⟩:=h
  obtain ⟨vs,k1,k2⟩:=RepA.vals h4
  refine ⟨v::vs,by simp only [RepL];exact ⟨v,vs,rfl,h3,k1⟩,λj u hj=> ?_⟩
  cases j with
  |zero=>simp at hj;subst hj;exact h1
  |succ j=>simp at hj;have:=k2 j u hj;rwa [show off+(j+1)=off+1+j from by omega]
theorem RepA.drop {g:G} {b:Nat}:∀{cs:List PV} {off:Nat} (k:Nat),RepA g b off cs->RepA g b (off+k) (cs.drop k)
 |_,_,0,h=>by simpa using h
 |[],_,k+1,_=>by simp [RepA]
 |c::cs,off,k+1,h=>by
  simp only [RepA] at h
  have:=RepA.drop k h.2
  simpa [show off+(k+1)=off+1+k from by omega] using this
theorem RepA.take {g:G} {b:Nat}:∀{cs:List PV} {off:Nat} (k:Nat),RepA g b off cs->RepA g b off (cs.take k)
 |_,_,0,_=>by simp [RepA]
 |[],_,k+1,_=>by simp [RepA]
 |c::cs,off,k+1,h=>by
  simp only [RepA] at h
  simp only [List.take_succ_cons,RepA]
  exact ⟨h.1,RepA.take k h.2⟩
theorem iL {P:Program} {st:aD} {w:World} {g:G} (hm:MemOK P st w g) {b i:Nat} {v:Value} (h:aS g.heap b i=some v):w.cell? ⟨b,i,none⟩=some v:=by
 rw [hm.heap] at h
 unfold aS at h
 simp only [World.cell?,Option.isSome_none,Bool.false_eq_true,if_false]
 exact h
theorem aeG {P:Program} {st:aD} {w:World} {g:G} (hm:MemOK P st w g) {b off:Nat} {cs:List PV} (h:RepA g b off cs) {T:TypeId} {n:Nat} (ha:bD P T=true) (hn:(P.info? T).map (·.size)=some n) (hl:cs.length=n):
  ∃vs,(loadVar T ⟨b,off,none⟩).run P w= .ok (.agg vs.toArray) w/\RepL g cs vs:=by
 obtain ⟨vs,h1,h2⟩:=h.vals
 have hlen:=h1.length
 refine ⟨vs, ?_,h1⟩
 have:=run_loadCells_list (P:=P) (w:=w) ⟨b,off,none⟩ vs (λj v hj=>by rw [cE];exact iL hm (h2 j v hj))
 rw [hlen,hl] at this
 simp [loadVar,cT ha (lK ha),aX hn,this]
theorem iU {g:G} {s:St} {ρ:Operand->Value}:∀{xs:List Operand} {ps:List PV},lL s xs=some ps->(∀x∈xs,fP g s x (ρ x))->RepL g ps (xs.map ρ)
 |[],ps,h,_=>by simp [lL] at h;subst h;simp [RepL]
 |x::xs,ps,h,hρ=>by
  simp only [lL] at h
  split at h
  ·rename_i p ps' hp hps
   injection h with h;subst h
   simp only [zmp,RepL]
   exact ⟨_,_,rfl,hρ x (by simp) p hp,iU hps (λy hy=>hρ y (by simp [hy]))⟩
  ·cases h
theorem ayR {P:Program} {tt:TT} (htt:bC P tt) {T:TypeId} {p:PV} {n:Nat} (h:lenT tt T p=some n) {g:G} {v:Value} (hr:Rep g p v) {w:World} {ty:TypeId}:(Builtin.len_ #[T] ty #[v]).run P w= .ok (.int .i64 n) w:=by
 have sl:cG tt T=true->∃e,P.underlying T=some (.slice e):=λhs=>by
  unfold cG at hs
  split at hs
  ·rename_i e he;exact ⟨e,bP (aP htt he).1⟩
  ·cases hs
 unfold lenT at h
 split at h
 ·rename_i b
  have hv:=aK hr
  subst hv
  cases hs:ahK tt T with
  |false=>rw [hs] at h;simp at h
  |true=>
   rw [hs] at h
   simp at h
   unfold ahK at hs
   split at hs
   ·rename_i he
    have hu:=jQ (aP htt he).1
    simp [Builtin.len_,run_underlying hu,goInt,h]
   ·cases hs
 ·cases hs:cG tt T with
  |false=>rw [hs] at h;simp at h
  |true=>
   rw [hs] at h
   simp only [zqt] at h
   obtain ⟨e,hu⟩:=sl hs
   unfold aCO at h
   split at h
   ·simp only [Rep] at hr;obtain ⟨a,cap,rfl,_⟩:=hr;injection h with h;subst h;simp [Builtin.len_,run_underlying hu,goInt]
   ·simp only [Rep] at hr;obtain ⟨b,cap,sz,_,hle,_,h4⟩:=hr
    injection h with h;subst h
    rcases h4 with ⟨hc,_,rfl⟩|⟨_,rfl,_⟩
    ·rw [hc] at hle
     simp [Builtin.len_,run_underlying hu,goInt]
     omega
    ·simp [Builtin.len_,run_underlying hu,goInt]
   ·simp only [Rep] at hr;obtain ⟨b,n',cap,_,h1,h2,_,⟨h3,a,rfl⟩|⟨_,rfl⟩⟩:=hr<;>injection h with h
    ·rw [show n=0 from by omega];simp [Builtin.len_,run_underlying hu,goInt]
    ·rw [<-h];simp [Builtin.len_,run_underlying hu,goInt]
   ·rename_i b hne;exact absurd rfl (hne b)
   ·have hv:=aK hr;subst hv;injection h with h;subst h;simp [Builtin.len_,run_underlying hu,goInt]
   ·simp only [Rep] at hr;obtain ⟨a,rfl⟩:=hr;injection h with h;subst h;simp [Builtin.len_,run_underlying hu,goInt]
   ·cases h
theorem bO {P:Program} {w w':World} {ρ:Operand->Value} {o:Oper} {b:Builtin} {args:Array Operand} {ts:Array TypeId} {v:Value} (ho:o.op= .call ⟨.builtin b,args,ts⟩)
  (h:(builtin b ts o.type (args.map fun| .const _=>true|_=>false) (args.map ρ)).run P w= .ok (.value v) w'):(execOp ρ o).run P w= .ok (.value v) w':=by
 simp only [execOp,ho,resolve,invoke,Sem.run_bind,Sem.run_pure,Result.andThen_ok]
 exact h
theorem apB {p q:PV} {off:Nat} (h:agX p off=some q) {g:G} {x:Value} (hr:Rep g p x):∃b o,x= .pointer (some ⟨b,o,none⟩)/\Rep g q (.pointer (some ⟨b,o+off,none⟩)):=by
 unfold agX at h
 split at h
 ·rw [bY] at h
  injection h with h;subst h
  simp only [Rep] at hr
  obtain ⟨b,o',e,hr⟩:=hr
  exact ⟨b,o',e,by simp only [Rep];exact ⟨b,o'+off,rfl,hr.drop off⟩⟩
 ·injection h with h;subst h
  simp only [Rep] at hr
  obtain ⟨b,n,cap,h1,rfl⟩:=hr
  exact ⟨b,_,rfl,by simp only [Rep];exact ⟨b,n,cap,h1,rfl⟩⟩
 ·injection h with h;subst h
  simp only [Rep] at hr
  obtain ⟨b,n,cap,h1,rfl⟩:=hr
  exact ⟨b,_,rfl,by simp only [Rep];exact ⟨b,n,cap,h1,by rw [Nat.add_assoc]⟩⟩
 ·cases h
theorem pD {P:Program} {tt:TT} (htt:bC P tt) {o:Oper} {s:St} {p:PV} (h:wJ tt s o.op=some p):OpV P o s p:=by
 obtain ⟨dst,op,type,pos,after,guard⟩:=o
 simp only at h
 cases op<;>simp only [wJ] at h<;>try (cases h;done)
 case move x=>
  exact aM λw g ρ _ hρ=>⟨ρ x,by simp [execOp],hρ x (by simp [Op.operands]) p h⟩
 case assign x=>
  exact aM λw g ρ _ hρ=>⟨ρ x,by simp [execOp],hρ x (by simp [Op.operands]) p h⟩
 case build T ps=>
  exact amZ htt (ps:=ps.toList) (by simp) h
 case load T x=>
  split at h
  ·rename_i cs n hx ha hn
   cases hb:Nat.ble n cs.length with
   |false=>rw [hb] at h;simp at h
   |true=>
    rw [hb] at h
    simp only [zqt,bY] at h
    injection h with h;subst h
    refine aM λw g ρ hm hρ=> ?_
    have hr:=hρ x (by simp [Op.operands]) _ hx
    simp only [Rep] at hr
    obtain ⟨b,off,e,hr⟩:=hr
    have hb:=Nat.le_of_ble_eq_true hb
    obtain ⟨vs,h1,h2⟩:=aeG hm (hr.take n) (bV htt ha).1 (aN htt hn).1 (by simp;omega)
    exact ⟨.agg vs.toArray,by simp [execOp,Instr.loadAt,e,Instr.sureAddr,h1],by simp only [Rep];exact ⟨vs,rfl,h2⟩⟩
  ·rename_i c cs n hx ha hn
   injection h with h;subst h
   refine aM λw g ρ hm hρ=> ?_
   have hr:=hρ x (by simp [Op.operands]) _ hx
   simp only [Rep,RepA] at hr
   obtain ⟨b,off,e,⟨v,h1,_,h3⟩,_⟩:=hr
   have:=iL hm h1
   exact ⟨v,by simp [execOp,Instr.loadAt,e,Instr.sureAddr,loadVar,cT (bV htt ha).1 (bV htt ha).2,this],h3⟩
  ·cases h
 case binOp op T x y T2=>
  split at h
  ·rename_i a b hx hy
   exact azV htt rfl hx hy h
  ·cases h
 case unOp op T x=>
  cases op<;>simp only at h<;>try (cases h;done)
  split at h
  ·rename_i b hx
   injection h with h;subst h
   refine aM λw g ρ hm hρ=> ?_
   have hr:=aK (hρ x (by simp [Op.operands]) _ hx)
   exact ⟨.bool (!b),by simp [execOp,hr,Op.unary],by simp [Rep]⟩
  ·cases h
 case makeFunc fn first caps=>
  cases fn<;>simp only at h<;>try (cases h;done)
  rename_i f
  split at h
  ·rename_i ps hf hps
   injection h with h;subst h
   refine aM λw g ρ hm hρ=> ?_
   have hr:=iU hps (ρ:=ρ) (g:=g) (λx hx=>hρ x (by simp [Op.operands];exact .inr (by simpa using hx)))
   have hf':first= #[]:=by simpa using hf
   exact ⟨.func (.func f) #[] (caps.map ρ),by simp [execOp,Instr.makeFunc,hf'],by simp only [Rep];exact ⟨(caps.toList.map ρ),by rw [<-Array.toList_map],hr⟩⟩
  ·cases h
 case fieldAddr T x f=>
  split at h
  ·rename_i q fs hx hk
   split at h
   case h_2=>cases h
   rename_i t off hf
   split at h
   case h_2=>cases h
   rename_i m hm'
   obtain ⟨fields,hu,hfs⟩:=dM (aP htt hk).1
   rw [<-hfs] at hf
   simp only [List.getElem?_map] at hf
   cases hfd:fields.toList[f]? with
   |none=>rw [hfd] at hf;cases hf
   |some fd=>
    rw [hfd] at hf
    simp at hf
    have hfd':fields[f]?=some fd:=by simpa using hfd
    refine aM λw g ρ hm hρ=> ?_
    have hr:=hρ x (by simp [Op.operands]) _ hx
    obtain ⟨b,o',e,hr⟩:=apB h hr
    have hsz:(sizeOf fd.type).run P w= .ok (m+1) w:=by rw [hf.1];exact aX (aN htt hm').1
    refine ⟨.pointer (some ⟨b,o'+off,none⟩), ?_,hr⟩
    simp [execOp,Instr.fieldAt,underlying,hu,hfd',e,Instr.sureAddr,fieldPlace,hsz,cE,hf.2]
  ·cases h
 case field T x f=>
  split at h
  ·rename_i cs fs hx hk
   split at h
   case h_2=>cases h
   rename_i t off hf
   obtain ⟨fields,hu,hfs⟩:=dM (aP htt hk).1
   rw [<-hfs] at hf
   simp only [List.getElem?_map] at hf
   cases hfd:fields.toList[f]? with
   |none=>rw [hfd] at hf;cases hf
   |some fd=>
    rw [hfd] at hf
    simp at hf
    have hfd':fields[f]?=some fd:=by simpa using hfd
    refine aM λw g ρ hm hρ=> ?_
    have hr:=hρ x (by simp [Op.operands]) _ hx
    simp only [Rep] at hr
    obtain ⟨vs,e,hr⟩:=hr
    obtain ⟨v,h1,h2⟩:=avV htt (w:=w) h (vs:=vs.toArray) (by simpa using hr)
    rw [<-hf.1,<-hf.2] at h1
    refine ⟨v, ?_,h2⟩
    simp [execOp,Instr.field,underlying,hu,hfd',e,asAgg,h1]
  ·cases h
 case extract x i=>
  split at h
  ·rename_i cs hx
   refine aM λw g ρ hm hρ=> ?_
   have hr:=hρ x (by simp [Op.operands]) _ hx
   simp only [Rep] at hr
   obtain ⟨vs,e,hr⟩:=hr
   obtain ⟨v,h1,h2⟩:=hr.get h
   exact ⟨v,by simp [execOp,Instr.extract,e,h1],h2⟩
  ·cases h
 case call c=>
  obtain ⟨callee,args,ts⟩:=c
  cases callee<;>simp only at h<;>try (cases h;done)
  rename_i b
  have hops:∀(g:G) (ρ:Operand->Value),(∀x∈(Op.call ⟨.builtin b,args,ts⟩).operands,fP g s x (ρ x))->∀x∈args.toList,fP g s x (ρ x):=λg ρ hρ x hx=>
   hρ x (by simp [Op.operands,Call.operands];simpa using hx)
  unfold asO at h
  split at h
  ·rename_i x T hxs hts
   split at h
   case h_2=>cases h
   rename_i q hq
   split at h
   case h_2=>cases h
   rename_i n hn
   injection h with h;subst h
   refine aM λw g ρ hm hρ=> ?_
   have hr:=hops g ρ hρ x (by rw [hxs];simp) _ hq
   have ha:args= #[x]:=by apply Array.toList_inj.1;simpa using hxs
   have ht:ts= #[T]:=by apply Array.toList_inj.1;simpa using hts
   subst ha;subst ht
   exact ⟨.int .i64 n,bO rfl (by simp [builtin,ayR htt hn hr]),by simp [Rep]⟩
  ·split at h
   case h_2=>cases h
   rename_i ps hps
   refine aM λw g ρ hm hρ=> ?_
   have hr:=iU hps (hops g ρ hρ)
   unfold axI at h
   split at h
   ·rename_i k a k' b
    obtain ⟨args⟩:=args
    simp only [RepL] at hr
    obtain ⟨v1,_,e1,r1,v2,_,e2,r2,e3⟩:=hr
    subst e3;subst e2
    cases hk:lM k k' with
    |false=>rw [hk] at h;simp at h
    |true=>
     rw [hk] at h;simp at h;subst h
     have:=fL hk;subst this
     refine ⟨.int k (max a b),bO rfl ?_,by simp [Rep]⟩
     simp only [List.map_toArray,e1,builtin,Builtin.max_,aK r1,aK r2]
     simp [Builtin.max2]
     omega
   ·rename_i k a k' b k'' c
    obtain ⟨args⟩:=args
    simp only [RepL] at hr
    obtain ⟨v1,_,e1,r1,v2,_,e2,r2,v3,_,e3,r3,e4⟩:=hr
    subst e4;subst e3;subst e2
    cases hk:(lM k k'&&lM k k'') with
    |false=>rw [hk] at h;simp at h
    |true=>
     rw [hk] at h;simp at h;subst h
     rw [zba] at hk
     have h1:=fL hk.1;subst h1
     have h2:=fL hk.2;subst h2
     refine ⟨.int k (max (max a b) c),bO rfl ?_,by simp [Rep]⟩
     simp only [List.map_toArray,e1,builtin,Builtin.max_,aK r1,aK r2,aK r3]
     simp [Builtin.max2]
     omega
   ·cases h
  ·split at h
   case h_2=>cases h
   rename_i ps hps
   refine aM λw g ρ hm hρ=> ?_
   have hr:=iU hps (hops g ρ hρ)
   unfold axI at h
   split at h
   ·rename_i k a k' b
    obtain ⟨args⟩:=args
    simp only [RepL] at hr
    obtain ⟨v1,_,e1,r1,v2,_,e2,r2,e3⟩:=hr
    subst e3;subst e2
    cases hk:lM k k' with
    |false=>rw [hk] at h;simp at h
    |true=>
     rw [hk] at h;simp at h;subst h
     have:=fL hk;subst this
     refine ⟨.int k (min a b),bO rfl ?_,by simp [Rep]⟩
     simp only [List.map_toArray,e1,builtin,Builtin.min_,aK r1,aK r2]
     simp [Builtin.min2]
     omega
   ·rename_i k a k' b k'' c
    obtain ⟨args⟩:=args
    simp only [RepL] at hr
    obtain ⟨v1,_,e1,r1,v2,_,e2,r2,v3,_,e3,r3,e4⟩:=hr
    subst e4;subst e3;subst e2
    cases hk:(lM k k'&&lM k k'') with
    |false=>rw [hk] at h;simp at h
    |true=>
     rw [hk] at h;simp at h;subst h
     rw [zba] at hk
     have h1:=fL hk.1;subst h1
     have h2:=fL hk.2;subst h2
     refine ⟨.int k (min (min a b) c),bO rfl ?_,by simp [Rep]⟩
     simp only [List.map_toArray,e1,builtin,Builtin.min_,aK r1,aK r2,aK r3]
     simp [Builtin.min2]
     omega
   ·cases h
  ·cases h
end
section
def EvS (P:Program) (l:List Oper):List Oper->St->(St->Prop)->Prop
 |[],s,K=>K s
 |o::r,s,K=>WpA P l o s λs'=>EvS P l r s' K
def Ev (P:Program) (l:List Oper) (d:Md) (r:List Oper) (s:St) (K:St->Prop):Prop:=
 match d with
 | .draw z rd=>EvD P l (.draw z rd) r s K
 | .seq=>EvS P l r s K
def cI (d:Md) (l r:List Oper):Bool:=
 match d with
 | .seq=>true
 | .draw z rd=> !eB (l.length-(r.length+1)) z&& !eB (l.length-(r.length+1)) rd
def tT (d:Md) (l r:List Oper):Bool:=
 match d with
 | .seq=>true
 | .draw z rd=> !eB (l.length-(r.length+1)) z&&eB (l.length-(r.length+1)) rd
def hY (d:Md) (l r:List Oper):Bool:=
 match d with
 | .seq=>true
 | .draw z _=>eB (l.length-(r.length+1)) z
section
variable {P:Program} {l:List Oper} {d:Md} {r:List Oper} {s:St} {K:St->Prop}
theorem xL (h:K s):Ev P l d [] s K:=by cases d<;>exact h
theorem eI {o:Oper} {T:Tr} (h:AStep P l o s false T) (ht:cI d l r=true) (k:Ev P l d r (T.app s) K):Ev P l d (o::r) s K:=by
 cases d with
 |draw z rd=>
  simp only [cI,zba,Bool.not_eq_true'] at ht
  show EvD P l (.draw z rd) (o::r) s K
  unfold EvD
  simp only [Md.z,Md.r,ht.1,ht.2]
  exact ⟨T,h,k⟩
 |seq=>exact λc a w g lam hs K' Q hK=>h.sound hs λa' w' g' lam' hs'=>hK _ _ _ _ _ k hs'
theorem arL {o:Oper} {T:Tr} (h:AStep P l o s true T) (ht:tT d l r=true) (k:Ev P l d r (T.app s) K):Ev P l d (o::r) s K:=by
 cases d with
 |draw z rd=>
  simp only [tT,zba,Bool.not_eq_true'] at ht
  show EvD P l (.draw z rd) (o::r) s K
  unfold EvD
  simp only [Md.z,Md.r,ht.1,ht.2]
  exact ⟨T,h,k⟩
 |seq=>exact λc a w g lam hs K' Q hK=>h.sound hs λa' w' g' lam' hs'=>hK _ _ _ _ _ k hs'
theorem aDb {o:Oper} {R:aD×PV->Prop} (h:ZOp P l o s R) (ht:hY d l r=true) (k:∀x,R x->Ev P l d r (s.turn o x) K):Ev P l d (o::r) s K:=by
 cases d with
 |draw z rd=>
  simp only [hY] at ht
  show EvD P l (.draw z rd) (o::r) s K
  unfold EvD
  simp only [Md.z,ht]
  exact ⟨R,h,k⟩
 |seq=>
  intro c a w g lam hs K' Q hK
  refine h s (λ_ _=>rfl) rfl rfl c a w g lam hs K' Q λs' a' w' g' lam' ⟨x,hx,e⟩ hs'=> ?_
  subst e
  exact hK _ _ _ _ _ (k x hx) hs'
def acL (F:Fence) (P:Program) (ops:Array Oper) (Q:Exit->Act->World->Prop):List Oper->Act->World->Prop
 |[],a,w=>Q .normal a w
 |o::r,a,w=>if Region.wanted o (yielded ops a.tmps) then o.wpIn F 0 P a w (acL F P ops Q r) Q else (∀f,o.about P w a.eval=some f->F.fn f)/\acL F P ops Q r (a.put o.dst undef) w
theorem aeV {F:Fence} {ops:Array Oper} {Q:Exit->Act->World->Prop}:∀(r:List Oper) (k:Nat) (a:Act) (w:World),ops.size=k+r.length->(∀j:Nat,r[j]?=ops[k+j]?)->acL F P ops Q r a w->wpOpsIn F 0 P ops Q (List.range' k r.length) a w
 |[],_,_,_,_,_,h=>h
 |o::r,k,a,w,hs,hr,h=>by
  have h0:ops[k]?=some o:=by have:=hr 0;simpa using this.symm
  have ih:∀a w,acL F P ops Q r a w->wpOpsIn F 0 P ops Q (List.range' (k+1) r.length) a w:=λa w h=>aeV r (k+1) a w (by simp at hs;omega) (λj=>by have:=hr (j+1);rw [List.getElem?_cons_succ] at this;rw [this];congr 1;omega) h
  simp only [zlc,List.range'_succ,wpOpsIn,h0]
  unfold acL at h
  split
  ·rename_i hw;rw [zp hw] at h;exact Oper.wpIn_mono ih h
  ·rename_i hw;rw [zn hw] at h;exact ⟨h.1,ih _ _ h.2⟩
theorem afN {F:Fence} {l:List Oper} {id:Nat} {Q:Exit->Act->World->Prop} {a:Act} {w:World} (h:acL F P l.toArray Q l a w):(Code.region id l.toArray false).wpIn F 0 P Q a w:=by
 refine wpIn_region ?_
 have:=aeV l 0 a w (by simp) (by simp) h
 simpa [List.range_eq_range'] using this
theorem EvS.sound {Q:Exit->St->Prop}:∀(r:List Oper) (s:St),EvS P l r s (Q .normal)->∀c a w g lam,SI P c s a w g lam->
  acL (FR c.ro) P l.toArray (λe a' w'=>∃s' g' lam',Q e s'/\SI P c s' a' w' g' lam') r a w
 |[],s,h,c,a,w,g,lam,hs=>⟨s,g,lam,h,hs⟩
 |o::r,s,h,c,a,w,g,lam,hs=>by
  have:=h c a w g lam hs (acL (FR c.ro) P l.toArray (λe a' w'=>∃s' g' lam',Q e s'/\SI P c s' a' w' g' lam') r) (λe a' w'=>∃s' g' lam',Q e s'/\SI P c s' a' w' g' lam')
   (λs' a' w' g' lam' k hs'=>EvS.sound r s' k c a' w' g' lam' hs')
  unfold sQ at this
  unfold acL
  split at this
  ·rename_i hw;rw [zp hw];exact this
  ·rename_i hw;rw [zn hw];exact ⟨λ_ _=>trivial,this⟩
theorem kS {id:Nat} {Q:Exit->St->Prop} (h:Ev P l .seq l s (Q .normal)):PWp P (.region id l.toArray false) Q s:=
 λc a w g lam hs=>afN (EvS.sound l s h c a w g lam hs)
theorem lO {id:Nat} {Q:Exit->St->Prop} {z rd:List Nat} (hm:P.follows .mixedOrders=true) (hB:ahV l (.draw z rd)=true) (hF:wO l s=true) (h:Ev P l (.draw z rd) l s (Q .normal)):PWp P (.region id l.toArray true) Q s:=
 arB hm hB hF h
theorem cA {s:St} {st:aD} (x:Operand):opd (s.sst st) x=opd s x:=by cases x<;>rfl
theorem uL {s:St} {st:aD}:∀(xs:List Operand),lL (s.sst st) xs=lL s xs
 |[]=>rfl
 |x::xs=>by simp only [lL,cA,uL xs]
theorem rX {tt:TT} {place:Nat->Option (Nat×Nat)} {s:St} {st:aD}:∀(ps:List (Nat×Operand)) (cells:List PV),jG tt place (s.sst st) cells ps=jG tt place s cells ps
 |[],_=>rfl
 |(i,x)::rest,cells=>by simp only [jG,cA,rX rest]
theorem aeH {tt:TT} {s:St} {st:aD} (op:Op):wJ tt (s.sst st) op=wJ tt s op:=by
 have e:opd (s.sst st)=opd s:=funext cA
 have e2:lL (s.sst st)=lL s:=funext uL
 have e3:∀place cells ps,jG tt place (s.sst st) cells ps=jG tt place s cells ps:=λ_ _ _=>rX _ _
 delta wJ acJ asO
 simp only [e,e2,e3]
def opl :Op->List Operand
 | .move x| .assign x=>[x]
 | .binOp _ _ x y _=>[x,y]
 | .unOp _ _ x=>[x]
 | .extract x _=>[x]
 | .field _ x _=>[x]
 | .fieldAddr _ x _=>[x]
 | .load _ x=>[x]
 | .convert _ _ x=>[x]
 | .indexAddr _ x y| .index _ x y=>[x,y]
 | .build _ ps| .buildSlice _ _ ps=>ps.toList.map (·.2)
 | .call ⟨.builtin _,args,_⟩=>args.toList
 | .call ⟨.value f,args,_⟩=>f::args.toList
 | .makeFunc _ _ caps=>caps.toList
 |op=>op.operands.toList
theorem aR {op:Op} (h0:∀fn a c,op= .makeFunc fn a c->a= #[]) {x:Operand} (h:x∈op.operands):x∈opl op:=by
 cases op<;>simp only [Op.operands,opl] at h⊢ <;>try first|simp at h;done|(simpa using h)
 case call c=>
  obtain ⟨callee,args,ts⟩:=c
  cases callee<;>simp [Call.operands] at h⊢ <;>simpa using h
 case makeFunc fn a c=>
  have:=h0 fn a c rfl
  subst this
  simpa using h
def gN (s:St):Operand->Bool
 | .tmp t=>(s.env t).1
 |_=>true
def bK (s:St):List Operand->Bool
 |[]=>true
 |x::xs=>gN s x&&bK s xs
theorem eX {x:Operand}:dJ s x↔gN s x=true:=by cases x<;>simp [dJ,gN]
theorem iR :∀{xs:List Operand},bK s xs=true->∀x∈xs,dJ s x
 |[],_,x,hx=>by cases hx
 |y::xs,h,x,hx=>by
  simp only [bK,zba] at h
  rcases zmc.1 hx with rfl|hx
  ·exact eX.2 h.1
  ·exact iR h.2 x hx
def gF (s:St) (w:Bool):List Operand->Prop
 |[]=>True
 |x::xs=>(w=true->gN s x=true)/\gF s w xs
theorem lE {w:Bool} (hw:w=true):∀{xs:List Operand},gF s w xs->∀x∈xs,dJ s x
 |[],_,x,hx=>by cases hx
 |y::xs,h,x,hx=>by
  rcases zmc.1 hx with rfl|hx
  ·exact eX.2 (h.1 hw)
  ·exact lE hw h.2 x hx
theorem oH {tt:TT} {op:Op} {p:PV} (h:wJ tt s op=some p):∀fn a c,op= .makeFunc fn a c->a= #[]:=by
 intro fn a c e
 subst e
 cases fn<;>simp only [wJ] at h<;>try (cases h;done)
 split at h
 ·rename_i hf _;simpa using hf
 ·cases h
theorem amG {w x b:Bool} (h:gw w x b=true):w=true:=by cases w<;>first|rfl|simp [gw] at h
theorem aDl {w x:Bool} (h:gw w x true=true):w=true/\x=true:=by cases w<;>cases x<;>simp_all [gw]
variable {tt:TT} {t:Nat} {op:Op} {ty:TypeId} {pos:String} {after:Array Edge} {gd:Option (Nat×Bool)}
theorem pH (htt:bC P tt) {p:PV} (h:wJ tt s op=some p) (hf:bK s (opl op)=true) (hd:Nat.blt t s.n=true) (ht:cI d l r=true) (k:Ev P l d r (s.pv t p) K):Ev P l d (⟨some t,op,ty,pos,after,none⟩::r) s K:=
 eI (.val false true p rfl hd (λ_ x hx=>iR hf x (aR (oH h) hx)) (λ_ st'=>pD htt (by rw [aeH];exact h))) ht k
theorem vC {p:PV} (hv:∀st',OpV P ⟨some t,op,ty,pos,after,none⟩ (s.sst st') p) (hm:∀x∈op.operands,x∈opl op) (hf:bK s (opl op)=true) (hd:Nat.blt t s.n=true) (ht:cI d l r=true) (k:Ev P l d r (s.pv t p) K):Ev P l d (⟨some t,op,ty,pos,after,none⟩::r) s K:=
 eI (.val false true p rfl hd (λ_ x hx=>iR hf x (hm x hx)) (λ_=>hv)) ht k
theorem ayW (htt:bC P tt) {w:Bool} {p:PV} (hw:bF l ⟨some t,op,ty,pos,after,gd⟩ s=some w) (h:wJ tt s op=some p) (hf:gF s w (opl op)) (hd:Nat.blt t s.n=true) (ht:cI d l r=true) (k:Ev P l d r (s.put (some t) w (.pv p)) K):
  Ev P l d (⟨some t,op,ty,pos,after,gd⟩::r) s K:=
 eI (.val false w p hw hd (λhw' x hx=>lE hw' hf x (aR (oH h) hx)) (λ_ st'=>pD htt (by rw [aeH];exact h))) ht k
theorem cN {w:Bool} {p:PV} (hw:bF l ⟨some t,op,ty,pos,after,gd⟩ s=some w) (hv:w=true->∀st',OpV P ⟨some t,op,ty,pos,after,gd⟩ (s.sst st') p) (hm:∀x∈op.operands,x∈opl op) (hf:gF s w (opl op)) (hd:Nat.blt t s.n=true)
  (ht:cI d l r=true) (k:Ev P l d r (s.put (some t) w (.pv p)) K):Ev P l d (⟨some t,op,ty,pos,after,gd⟩::r) s K:=
 eI (.val false w p hw hd (λhw' x hx=>lE hw' hf x (hm x hx)) hv) ht k
theorem aBF {w wt x y:Bool} {u:Nat} {a:Operand} (hw:bF l ⟨some t, .pick (.tmp u) a (.const (.bool false)),ty,pos,after,gd⟩ s=some w) (hu:s.env u=(wt, .pv (.val (.bool x)))) (ha:opd s a=some (.val (.bool y)))
  (h1:w=true->wt=true) (h2:w=true->x=true->gN s a=true) (hd:Nat.blt t s.n=true) (ht:cI d l r=true) (k:Ev P l d r (s.put (some t) w (.pv (.val (.bool (x&&y))))) K):Ev P l d (⟨some t, .pick (.tmp u) a (.const (.bool false)),ty,pos,after,gd⟩::r) s K:=
 eI (.pick w u a _ wt x _ hw hd rfl hu h1 (λhw' hx=>⟨eX.2 (h2 hw' hx),by rw [ha,hx];rfl⟩) (λ_ hx=>⟨trivial,by rw [hx];rfl⟩)) ht k
theorem aCI {w wt x y:Bool} {u:Nat} {b:Operand} (hw:bF l ⟨some t, .pick (.tmp u) (.const (.bool true)) b,ty,pos,after,gd⟩ s=some w) (hu:s.env u=(wt, .pv (.val (.bool x)))) (hb:opd s b=some (.val (.bool y)))
  (h1:w=true->wt=true) (h2:w=true->x=false->gN s b=true) (hd:Nat.blt t s.n=true) (ht:cI d l r=true) (k:Ev P l d r (s.put (some t) w (.pv (.val (.bool (x||y))))) K):Ev P l d (⟨some t, .pick (.tmp u) (.const (.bool true)) b,ty,pos,after,gd⟩::r) s K:=
 eI (.pick w u _ b wt x _ hw hd rfl hu h1 (λ_ hx=>⟨trivial,by rw [hx];rfl⟩) (λhw' hx=>⟨eX.2 (h2 hw' hx),by rw [hb,hx];rfl⟩)) ht k
def axC (tt:TT) (s:St):Op->Option (Bool×Nat×Nat)
  | .fieldAddr T (.tmp x) f=>match s.env x with
    |(w, .adr t off)=>match tiK tt T with
      |some (.struct fs)=>match fs[f]? with
        |some (ft,o)=>match aO tt ft with
          |some (_+1)=>some (w,t,off+o)
          |_=>none
        |none=>none
      |_=>none
    |_=>none
  |_=>none
theorem ayP (htt:bC P tt) {x:Bool×Nat×Nat} (h:axC tt s op=some x):kO P s op=some x:=by
 unfold axC at h
 split at h
 ·rename_i T x f
  split at h
  ·rename_i w t off hx
   split at h
   ·rename_i fs hk
    split at h
    ·rename_i ft o hf
     split at h
     ·rename_i m hm
      injection h with h;subst h
      obtain ⟨fields,hu,hfs⟩:=dM (aP htt hk).1
      rw [<-hfs] at hf
      simp only [List.getElem?_map] at hf
      cases hfd:fields.toList[f]? with
      |none=>rw [hfd] at hf;cases hf
      |some fd=>
       rw [hfd] at hf
       simp at hf
       have hfd':fields[f]?=some fd:=by simpa using hfd
       have:=(aN htt hm).2
       simp only [kO,hx,hu,hfd']
       rw [hf.1,this,hf.2]
       simp
     ·cases h
    ·cases h
   ·cases h
  ·cases h
 ·cases h
theorem aBh (htt:bC P tt) {w wx:Bool} {T:TypeId} {x f u off:Nat} (hw:bF l ⟨some t, .fieldAddr T (.tmp x) f,ty,pos,after,gd⟩ s=some w) (h:axC tt s (.fieldAddr T (.tmp x) f)=some (wx,u,off)) (h1:w=true->wx=true) (hd:Nat.blt t s.n=true)
  (ht:cI d l r=true) (k:Ev P l d r (s.put (some t) w (.adr u off)) K):Ev P l d (⟨some t, .fieldAddr T (.tmp x) f,ty,pos,after,gd⟩::r) s K:=
 eI (.adr w wx u off hw hd (ayP htt h) h1) ht k
def gT (tt:TT) (T:TypeId) (cs:List PV) (off:Nat):Option PV:=
 match mF tt T,aO tt T with
 |some true,some n=>bif Nat.ble (off+n) cs.length then fW (bZ cs off n) λds=>some (.agg ds) else none
 |some false,some _=>cs[off]?
 |_,_=>none
theorem aAi (htt:bC P tt) {w wx:Bool} {T:TypeId} {x u off:Nat} {T':TypeId} {cs:List PV} {p:PV} (hw:bF l ⟨some t, .load T (.tmp x),ty,pos,after,gd⟩ s=some w) (hx:s.env x=(wx, .adr u off)) (hL:s.L u=some (T',cs))
  (h:gT tt T cs off=some p) (h1:w=true->wx=true) (hd:Nat.blt t s.n=true) (ht:cI d l r=true) (k:Ev P l d r (s.put (some t) w (.pv p)) K):Ev P l d (⟨some t, .load T (.tmp x),ty,pos,after,gd⟩::r) s K:=by
 unfold gT at h
 split at h
 ·rename_i n ha hn
  cases hb:Nat.ble (off+n) cs.length with
  |false=>rw [hb] at h;simp at h
  |true=>
   rw [hb] at h
   simp only [zqt,bY] at h
   injection h with h;subst h
   exact eI (.loadA w wx T x u off T' cs n hw hd rfl hx h1 hL (bV htt ha).1 (aN htt hn).1 (Nat.le_of_ble_eq_true hb)) ht k
 ·rename_i n ha hn
  exact eI (.load1 w wx T x u off T' cs p hw hd rfl hx h1 hL (bV htt ha).1 (bV htt ha).2 h) ht k
 ·cases h
def avS (tt:TT) (T:TypeId):Option (List PV):=match tiZ tt T with|some z=>fW (z.map .val) some|none=>none
theorem avR (htt:bC P tt) {T:TypeId} {cs:List PV} (h:avS tt T=some cs) (hd:Nat.blt t s.n=true) (had:s.ad t=false) (ht:cI d l r=true) (k:Ev P l d r (s.var t T cs) K):Ev P l d (⟨some t, .alloc T,ty,pos,after,none⟩::r) s K:=by
 unfold avS at h
 split at h
 ·rename_i z hz
  rw [bY] at h
  injection h with h;subst h
  obtain ⟨v,h1,h2⟩:=jO htt hz
  refine eI (.alloc t T v rfl rfl hd had rfl h1) ht ?_
  rw [h2];exact k
 ·cases h
def auK :PV->List PV
 | .agg cs=>cs
 |p=>[p]
theorem yZ (p:PV):auK p=p.cells:=by cases p<;>rfl
def apC (s:St) (x:Operand):Option (List PV):=
 match opd s x with
 |some p=>bif p.flat then fW (auK p) some else none
 |none=>none
theorem uJ {x:Operand} {cs:List PV} (h:apC s x=some cs):∃p,opd s x=some p/\p.flat=true/\cs=p.cells:=by
 unfold apC at h
 split at h
 ·rename_i p hp
  cases hf:p.flat with
  |false=>rw [hf] at h;simp at h
  |true=>
   rw [hf] at h
   simp only [zqt,bY] at h
   injection h with h
   exact ⟨p,hp,hf,by rw [<-h,yZ]⟩
 ·cases h
theorem aBJ {T:TypeId} {x:Operand} {cs:List PV} (h:apC s x=some cs) (hf:gN s x=true) (hd:Nat.blt t s.n=true) (had:s.ad t=false) (ht:cI d l r=true) (k:Ev P l d r (s.var t T cs) K):Ev P l d (⟨some t, .box T x,ty,pos,after,none⟩::r) s K:=by
 obtain ⟨p,h1,h2,rfl⟩:=uJ h
 exact eI (.box t T x p rfl rfl hd had rfl (eX.2 hf) h1 h2) ht k
def iP (tt:TT) (s:St) (T:TypeId) (y:Operand) (cs:List PV) (off:Nat):Option (List PV):=
 match apC s y,aO tt T with
 |some ps,some n=>bif Nat.beq ps.length n&&Nat.ble (off+n) cs.length then fW (fE cs off ps) some else none
 |_,_=>none
def St.setv (s:St) (u:Nat) (T:TypeId) (cs:List PV):St:={s with L:=upd s.L u (some (T,cs))}
theorem atA (htt:bC P tt) {T:TypeId} {x:Nat} {y:Operand} {u off:Nat} {T':TypeId} {cs cs':List PV} (hx:s.env x=(true, .adr u off)) (hL:s.L u=some (T',cs)) (h:iP tt s T y cs off=some cs') (hf:gN s y=true)
  (ht:cI d l r=true) (k:Ev P l d r (s.setv u T' cs') K):Ev P l d (⟨none, .store T (.tmp x) y,ty,pos,after,none⟩::r) s K:=by
 unfold iP at h
 split at h
 ·rename_i ps n hp hn
  obtain ⟨p,h1,h2,rfl⟩:=uJ hp
  cases hb:(Nat.beq p.cells.length n&&Nat.ble (off+n) cs.length) with
  |false=>rw [hb] at h;simp at h
  |true=>
   rw [hb] at h
   simp only [zqt,bY] at h
   injection h with h;subst h
   rw [zba] at hb
   have e1:=Nat.eq_of_beq_eq_true hb.1
   have e2:=Nat.le_of_ble_eq_true hb.2
   exact eI (.store T x y u off T' cs p rfl rfl rfl hx hL (eX.2 hf) h1 h2 (by rw [e1];exact (aN htt hn).1) (by omega)) ht k
 ·cases h
end
end
section
def Wk (p q:PV):Prop:=∀g v,Rep g p v->Rep g q v
theorem Wk.refl (p:PV):Wk p p:=λ_ _ h=>h
theorem zwr (p:PV):Wk p p:=Wk.refl p
theorem Wk.own (id:Nat) (rows:List (List PV)):Wk (.own id rows) (.seq rows):=λg v h=>by
 simp only [Rep] at h⊢
 obtain ⟨b,cap,sz,h1,h2,h3,h4⟩:=h
 rcases h4 with ⟨h4,a,rfl⟩|⟨h4,rfl,h5⟩
 ·have:rows.length=0:=by omega
  have hr:rows=[]:=List.length_eq_zero_iff.1 this
  subst hr
  exact ⟨a,0,rfl,by simp,by simp, .inl rfl⟩
 ·exact ⟨_,cap,rfl,h2,h3, .inr ⟨b,0,sz,rfl,h5⟩⟩
theorem Wk.nil :Wk (.val (.slice none 0 0)) (.seq []):=λg v h=>by
 have:=aK h;subst this
 simp only [Rep]
 exact ⟨none,0,rfl,by simp,by simp, .inl (by simp)⟩
theorem Wk.trans {p q r:PV} (h:Wk p q) (k:Wk q r):Wk p r:=λg v e=>k g v (h g v e)
inductive WkL :List PV->List PV->Prop
 |nil:WkL [] []
 |cons {p q:PV} {ps qs:List PV} (h:Wk p q) (k:WkL ps qs):WkL (p::ps) (q::qs)
theorem WkL.rep {g:G} {ps qs:List PV} (h:WkL ps qs):∀{vs:List Value},RepL g ps vs->RepL g qs vs:=by
 induction h with
 |nil=>exact λh=>h
 |cons h _ ih=>
  intro vs e
  simp only [RepL] at e⊢
  obtain ⟨v,vs',rfl,e1,e2⟩:=e
  exact ⟨v,vs',rfl,h _ _ e1,ih e2⟩
theorem WkL.refl :∀(ps:List PV),WkL ps ps
 |[]=> .nil
 |p::ps=> .cons (Wk.refl p) (WkL.refl ps)
theorem Wk.agg {ps qs:List PV} (h:WkL ps qs):Wk (.agg ps) (.agg qs):=λg v e=>by
 simp only [Rep] at e⊢
 obtain ⟨vs,e1,e2⟩:=e
 exact ⟨vs,e1,h.rep e2⟩
theorem Wk.tup {ps qs:List PV} (h:WkL ps qs):Wk (.tup ps) (.tup qs):=λg v e=>by
 simp only [Rep] at e⊢
 obtain ⟨vs,e1,e2⟩:=e
 exact ⟨vs,e1,h.rep e2⟩
def dL :Nat->List PV->St->St
 |_,[],s=>s
 |i,p::ps,s=>dL (i+1) ps (s.pv i p)
def lP (tt:TT) (s:St):ResultVar->Option PV
  | .tmp t=>match s.env t with
    |(true, .pv p)=>some p
    |_=>none
  | .cell t T=>match s.env t with
    |(true, .adr u off)=>match s.L u with
      |some (_,cs)=>gT tt T cs off
      |none=>none
    |_=>none
def rS (tt:TT) (s:St):List ResultVar->Option (List PV)
 |[]=>some []
 |x::xs=>match lP tt s x,rS tt s xs with
  |some p,some ps=>some (p::ps)
  |_,_=>none
def apX (tt:TT) (s:St) (xs:List ResultVar):Option PV:=
 match rS tt s xs with
 |some [p]=>some p
 |some ps=>some (.tup ps)
 |none=>none
def aC8 (tt:TT) (xs:List ResultVar) (R:PV->aD->Prop):Exit->St->Prop
 | .normal,s| .ret,s=>∃p q st2,apX tt s xs=some p/\Wk p q/\StSub st2 s.st/\R q st2
 |_,_=>False
section
variable {P:Program} {tt:TT}
def sL (tmps:Array Value):ResultVar->Sem Value
 | .tmp t=>pure (tmps.getD t undef)
 | .cell u T=>do loadVar T (<-asAddr (tmps.getD u undef))
theorem ajY (fn:Func) (tmps:Array Value):results fn tmps=(fn.results.mapM (sL tmps)>>=λvs=>pure (if h:vs.size=1 then vs[0] else .tuple vs)):=by
 unfold results
 have:(sL tmps)=(fun| .tmp t=>pure (tmps.getD t undef)| .cell a t=>do loadVar t (<-asAddr (tmps.getD a undef))):=by
  funext x;cases x<;>rfl
 rw [this]
 rfl
theorem aqT (htt:bC P tt) {c:Ctx} {s:St} {a:Act} {w:World} {g:G} {lam:Nat->Nat} (hs:SI P c s a w g lam) {x:ResultVar} {p:PV} (h:lP tt s x=some p):
  ∃v,(sL a.tmps x).run P w= .ok v w/\Rep g p v:=by
 cases x with
 |tmp t=>
  simp only [lP] at h
  split at h
  ·rename_i q hq
   injection h with h;subst h
   have:=hs.env t
   rw [hq] at this
   exact ⟨_,rfl,this⟩
  ·cases h
 |cell u T=>
  simp only [lP] at h
  split at h
  ·rename_i t off hq
   split at h
   ·rename_i T' cs hL
    have he:=hs.env u
    rw [hq] at he
    have he':a.tmps.getD u undef= .pointer (some ⟨lam t,off,none⟩):=he
    obtain ⟨vs,k1,k2, -⟩:=hs.box t T' cs hL
    rw [hs.mem.heap] at k1
    unfold gT at h
    split at h
    ·rename_i n ha hn
     cases hb:Nat.ble (off+n) cs.length with
     |false=>rw [hb] at h;simp at h
     |true=>
      rw [hb] at h
      simp only [zqt,bY] at h
      injection h with h;subst h
      have hc:=Nat.le_of_ble_eq_true hb
      have hr:=(k2.drop off).take n
      have hlen:=k2.length
      have hl2:((vs.toList.drop off).take n).length=n:=by simp at hlen⊢;omega
      have hrun0:=run_loadCells_list (P:=P) (w:=w) ⟨lam t,off,none⟩ ((vs.toList.drop off).take n) (λj v hj=>by
       have hj2:j<n:=by
        have:j<((vs.toList.drop off).take n).length:=by
         rcases Nat.lt_or_ge j ((vs.toList.drop off).take n).length with h|h
         ·exact h
         ·rw [List.getElem?_eq_none h] at hj;cases hj
        omega
       rw [cE,cD k1]
       simpa [List.getElem?_take,hj2,List.getElem?_drop] using hj)
      rw [hl2] at hrun0
      refine ⟨.agg ((vs.toList.drop off).take n).toArray, ?_,by simp only [Rep];exact ⟨_,rfl,hr⟩⟩
      simp only [sL,he',asAddr,Sem.run_bind,Sem.run_pure,Result.andThen_ok]
      simp [loadVar,cT (bV htt ha).1 (bV htt ha).2,aX (aN htt hn).1,hrun0]
    ·rename_i n ha hn
     obtain ⟨v,e1,e2⟩:=k2.get h
     refine ⟨v, ?_,e2⟩
     have hcell:w.cell? ⟨lam t,off,none⟩=some v:=by rw [cD k1];simpa using e1
     simp only [sL,he',asAddr,Sem.run_bind,Sem.run_pure,Result.andThen_ok]
     simp [loadVar,cT (bV htt ha).1 (bV htt ha).2,hcell]
    ·cases h
   ·cases h
  ·cases h
theorem yY (htt:bC P tt) {c:Ctx} {s:St} {a:Act} {w:World} {g:G} {lam:Nat->Nat} (hs:SI P c s a w g lam):∀{xs:List ResultVar} {ps:List PV},rS tt s xs=some ps->
  ∃vs,(xs.mapM (sL a.tmps)).run P w= .ok vs w/\RepL g ps vs
 |[],ps,h=>by simp [rS] at h;subst h;exact ⟨[],by simp,by simp [RepL]⟩
 |x::xs,ps,h=>by
  simp only [rS] at h
  split at h
  ·rename_i p ps' hp hps
   injection h with h;subst h
   obtain ⟨v,h1,h2⟩:=aqT htt hs hp
   obtain ⟨vs,h3,h4⟩:=yY htt hs hps
   refine ⟨v::vs, ?_,by simp only [RepL];exact ⟨v,vs,rfl,h2,h4⟩⟩
   rw [List.mapM_cons]
   simp only [Sem.run_bind,Sem.run_pure,h1,h3,Result.andThen_ok]
  ·cases h
theorem aAO (htt:bC P tt) {c:Ctx} {s:St} {a:Act} {w:World} {g:G} {lam:Nat->Nat} (hs:SI P c s a w g lam) {fn:Func} {p:PV} (h:apX tt s fn.results.toList=some p):
  ∃v,(results fn a.tmps).run P w= .ok v w/\Rep g p v:=by
 unfold apX at h
 have key:∀ps,rS tt s fn.results.toList=some ps->∃vs,RepL g ps vs/\(results fn a.tmps).run P w= .ok (if h:vs.length=1 then vs[0] else .tuple vs.toArray) w:=by
  intro ps hps
  obtain ⟨vs,h1,h2⟩:=yY htt hs hps
  refine ⟨vs,h2, ?_⟩
  rw [ajY,Array.mapM_eq_mapM_toList]
  simp only [Sem.run_bind,Sem.run_map,Result.andThen_ok,h1,Sem.run_pure]
  rfl
 split at h
 ·rename_i q hq
  injection h with h;subst h
  obtain ⟨vs,h2,h3⟩:=key _ hq
  obtain ⟨v,rfl,h4⟩:=iI h2
  exact ⟨v,by simpa using h3,h4⟩
 ·rename_i ps hne hps
  injection h with h;subst h
  obtain ⟨vs,h2,h3⟩:=key _ hps
  have hl:vs.length≠1:=by
   intro e
   have:=h2.length
   rw [e] at this
   match ps,this with
   |[q],_=>exact hne q rfl
  rw [dif_neg hl] at h3
  exact ⟨_,h3,by simp only [Rep];exact ⟨vs,rfl,h2⟩⟩
 ·cases h
theorem kV :∀(ps:List PV) (i:Nat) (s:St) (t:Nat),(dL i ps s).env t=match ps[t-i]? with|some p=>if i<=t then (true, .pv p) else s.env t|none=>s.env t
 |[],i,s,t=>by simp [dL]
 |p::ps,i,s,t=>by
  simp only [dL]
  rw [kV ps (i+1) (s.pv i p) t]
  have he:(s.pv i p).env t=if t=i then (true, .pv p) else s.env t:=by
   show upd s.env i _ t=_
   by_cases h:t=i
   ·subst h;rw [aA,zp rfl]
   ·rw [aC h,zn h]
  rw [he]
  by_cases h1:t=i
  ·subst h1
   simp only [if_true,Nat.sub_self,List.getElem?_cons_zero,Nat.le_refl]
   cases ps[t-(t+1)]? with
   |none=>rfl
   |some q=>simp only;rw [zn (by omega)]
  ·by_cases h2:i<=t
   ·have:t-i=(t-(i+1))+1:=by omega
    rw [this]
    simp only [List.getElem?_cons_succ,zn h1]
    cases ps[t-(i+1)]? with
    |none=>rfl
    |some q=>simp only;rw [zp (by omega),zp h2]
   ·have:t-i=0:=by omega
    rw [this]
    simp only [List.getElem?_cons_zero,zn h1]
    cases ps[t-(i+1)]? with
    |none=>simp [h2]
    |some q=>simp only;rw [zn (by omega),zn h2]
theorem oB :∀(ps:List PV) (i:Nat) (s:St),(dL i ps s).L=s.L/\(dL i ps s).ad=s.ad/\(dL i ps s).st=s.st/\(dL i ps s).n=s.n/\(dL i ps s).top=s.top
 |[],_,_=>⟨rfl,rfl,rfl,rfl,rfl⟩
 |p::ps,i,s=>oB ps (i+1) (s.pv i p)
theorem atF {st:aD} {w:World} {g:G} (hm:MemOK P st w g) {D:Nat} {o:Obj} (ho:awB o=true) (hD:g.heap[D]?=some (.deferred (some []))):
  MemOK P st (w.putObj D o) {g with heap:=(w.putObj D o).heap}/\Le g {g with heap:=(w.putObj D o).heap}:=by
 have hD':w.heap[D]?=some (.deferred (some [])):=by rw [<-hm.heap];exact hD
 have hlt:=aZ hD'
 have old:∀k,k≠D->(w.putObj D o).heap[k]?=w.heap[k]?:=λk hk=>World.putObj_heap_other hk
 have new:(w.putObj D o).heap[D]?=some o:=World.putObj_heap_same hlt
 have hfm:∀k,g.fm k->k≠D:=λk hk e=>by
  obtain ⟨ents,clock,h,_⟩:=hm.fmm k hk
  rw [e,hD'] at h;cases h
 have hle:Le g {g with heap:=(w.putObj D o).heap}:=by
  refine ⟨λ_ _ h=>h,λ_=>Nat.le_refl _,λk i hi=> ?_,λk hk=>⟨hk, ?_⟩⟩
  ·show aS (w.putObj D o).heap k i=aS g.heap k i
   rw [hm.heap]
   by_cases hk:k=D
   ·subst hk
    simp only [aS,new,hD']
    cases o<;>simp [awB] at ho<;>rfl
   ·simp only [aS,old k hk]
  ·show (w.putObj D o).heap[k]?=g.heap[k]?
   rw [hm.heap,old k (hfm k hk)]
 refine ⟨⟨rfl,λid o' e=> ?_,hm.inj,λk h=>by rw [World.putObj_size];exact hm.lt k h,λk h=> ?_,hm.fin⟩,hle⟩
 ·refine (hm.obj id o' e).keep hle λk hk=>⟨?_,rfl,Iff.rfl⟩
  show (w.putObj D o).heap[k]?=g.heap[k]?
  rw [hm.heap]
  exact old k λh=>mW hm hD ⟨id,by rw [e];simp,h▸hk⟩
 ·obtain ⟨ents,clock,e,hs⟩:=hm.fmm k h
  exact ⟨ents,clock,by rw [old k (hfm k h)];exact e,hs⟩
theorem SI.shut {c:Ctx} {s:St} {a:Act} {w:World} {g:G} {lam:Nat->Nat} (hs:SI P c s a w g lam) {D:Nat} {Ds:List Nat} (ha:a.defers=(D::Ds).map mT):
  (Instr.takeDeferred D).run P w= .ok [] (w.putObj D (.deferred none))/\SI P c s {a with defers:=Ds.map mT} (w.putObj D (.deferred none)) {g with heap:=(w.putObj D (.deferred none)).heap} lam:=by
 obtain ⟨Ds',h1,h2,h3⟩:=hs.defers
 have hinj:∀{x y:List Nat},x.map mT=y.map mT->x=y:=fun {x y} e=>List.map_inj_right (λa b h=>by simp only [mT,Deferred.mk.injEq,Target.collected.injEq] at h;exact h.1)|>.1 e
 have:=hinj (ha.symm.trans h1)
 subst this
 obtain ⟨d1,d2⟩:=h3 D (by simp)
 have hD':w.heap[D]?=some (.deferred (some [])):=by rw [<-hs.mem.heap];exact d1
 refine ⟨run_takeDeferred hD', ?_⟩
 obtain ⟨m1,m2⟩:=atF (o:= .deferred none) hs.mem rfl d1
 exact {
  mem:=m1
  le:=hs.le.trans m2
  frame:=hs.frame.trans (B':=λb=>b=D) ⟨rfl,⟨rfl,Nat.le_refl _⟩,rfl,by rw [World.putObj_size];exact Nat.le_refl _,λb hb hne=>⟨World.putObj_heap_other hne,rfl,Iff.rfl⟩⟩ (λb hb e=>by subst e;omega)
  blk:=hs.blk
  env:=λt=>(hs.env t).mono m2
  box:=λt T cs e=>by
   obtain ⟨vs,k1,k2,k3,k4,k5⟩:=hs.box t T cs e
   refine ⟨vs, ?_,RepL.mono m2 _ _ k2,k3,k4,k5⟩
   show (w.putObj D (.deferred none)).heap[lam t]?=_
   rw [World.putObj_heap_other (λh=>by rw [h,d1] at k1;cases k1),<-hs.mem.heap];exact k1
  inj:=hs.inj
  ad:=hs.ad
  adL:=hs.adL
  defers:=⟨Ds,rfl,(List.nodup_cons.1 h2).2,λE hE=>⟨by
   show (w.putObj D (.deferred none)).heap[E]?=_
   have hne:E≠D:=λh=>(List.nodup_cons.1 h2).1 (by rw [<-h];exact hE)
   rw [World.putObj_heap_other hne,<-hs.mem.heap];exact (h3 E (List.mem_cons_of_mem _ hE)).1,(h3 E (List.mem_cons_of_mem _ hE)).2⟩⟩
  top:=hs.top
  n:=hs.n}
theorem SI.leaves {fn:Func} {c:Ctx} {s:St} {lam:Nat->Nat} {R:Ending->World->Prop}:∀(Ds:List Nat) {a:Act} {w:World} {g:G},a.defers=Ds.map mT->SI P c s a w g lam->
  (∀w' g',SI P c s {a with defers:=[]} w' g' lam->∃v,(results fn a.tmps).run P w'= .ok v w'/\R (.returned v) w')->LeavesInM Fence.wide 0 P fn a.tmps R a.defers .returning w
 |[],a,w,g,ha,hs,h=>by
  rw [ha]
  obtain ⟨v,h1,h2⟩:=h w g {hs with defers:=⟨[],rfl,List.nodup_nil,λ_ h=>by cases h⟩}
  exact ⟨v,h1,h2⟩
 |D::Ds,a,w,g,ha,hs,h=>by
  obtain ⟨h1,h2⟩:=hs.shut ha
  rw [ha]
  exact ⟨by simp, .inl ⟨D,_,rfl,h1,SI.leaves Ds (a:={a with defers:=Ds.map mT}) rfl h2 h⟩⟩
theorem aAr (htt:bC P tt) {f:FuncId} {fn:Func} {cd:Code} {args:List PV} {st:aD} {R:PV->aD->Prop} {n:Nat} {xs:List ResultVar} (hf:P.funcs[f]?=some fn) (hc:eD P f=true) (hb:fn.body=some cd) (hn:fn.ntmps=n) (hx:fn.results.toList=xs)
  (hle:Nat.ble args.length n=true) (h:PWp P cd (aC8 tt xs R) (dL 0 args (St.nil n st))):PC P f args st R:=by
 refine ⟨hc,λw g vs hm hr=> ?_⟩
 have hle:=Nat.le_of_ble_eq_true hle
 have hlen:=hr.length
 refine callsIn_wide.1 (callsIn_of_wp_marks (F:=Fence.wide) (n:=0) hf hb trivial ?_)
 obtain ⟨i1,i2,i3,i4,i5⟩:=oB args 0 (St.nil n st)
 have hsi:SI P ⟨w,g,Blocks st g,none⟩ (dL 0 args (St.nil n st)) {tmps:=vs.toArray++Array.replicate (fn.ntmps-vs.toArray.size) undef,defers:=[]} w g (λ_=>0):={
  mem:=by rw [i3];exact hm
  le:=Le.refl g
  frame:=Frame.refl _ w g
  blk:=λb h=>by rw [i3] at h;exact .inl h
  env:=λt=>by
   rw [kV]
   simp only [Nat.sub_zero,Nat.zero_le,if_true]
   cases hp:args[t]? with
   |none=>simp [St.nil,EntOK,Rep]
   |some p=>
    obtain ⟨v,e1,e2⟩:=hr.get hp
    have hlt:t<vs.length:=by
     rcases Nat.lt_or_ge t vs.length with h|h
     ·exact h
     ·rw [List.getElem?_eq_none h] at e1;cases e1
    simp only [EntOK]
    have:(vs.toArray++Array.replicate (fn.ntmps-vs.toArray.size) undef)[t]?=some v:=by
     rw [Array.getElem?_append_left (by simpa using hlt)];simpa using e1
    simp only [Array.getD_eq_getD_getElem?,this]
    exact e2
  box:=λt T cs e=>by rw [i1] at e;cases e
  inj:=λt t' e=>by rw [i1] at e;exact absurd rfl e
  ad:=λt b u off e=>by
   rw [kV] at e
   simp only [Nat.sub_zero,Nat.zero_le,if_true] at e
   cases hp:args[t]?<;>rw [hp] at e<;>cases e
  adL:=λt e=>by rw [i1] at e;exact absurd rfl e
  defers:=⟨[],rfl,List.nodup_nil,λ_ h=>by cases h⟩
  top:=by rw [i5];rfl
  n:=by rw [i4];simp [St.nil];omega}
 refine wpIn_mono (h _ _ _ _ _ hsi) ?_
 rintro e a' w' ⟨s',g',lam',hq,hs'⟩
 have fin:(∃p q st2,apX tt s' xs=some p/\Wk p q/\StSub st2 s'.st/\R q st2)->LeavesInM Fence.wide 0 P fn a'.tmps (λe w'=>∃v' r st' g'',e=Ending.returned v'/\R r st'/\Rep g'' r v'/\MemOK P st' w' g''/\Le g g''/\Frame (Blocks st g) w g w' g''/\∀b,Blocks st' g'' b->Blocks st g b\/w.heap.size<=b) a'.defers .returning w':=by
  rintro ⟨p,q,st2,h1,h2,h3,h4⟩
  rw [<-hx] at h1
  obtain ⟨Ds,hd,_⟩:=hs'.defers
  refine hs'.leaves Ds hd λw2 g2 hs2=> ?_
  obtain ⟨v,r1,r2⟩:=aAO htt hs2 h1
  exact ⟨v,r1,v,q,st2,g2,rfl,h4,h2 _ _ r2,hs2.mem.sub h3,hs2.le,hs2.frame,λb hb=>hs2.blk b (hb.sub h3)⟩
 cases e with
 |normal=>exact fin hq
 |ret=>exact fin hq
 |_=>exact hq.elim
theorem afB {P:Program} {w:World} {ρ:Operand->Value} {o:Oper} {f:Operand} {args:Array Operand} {ts:Array TypeId} {fid:FuncId} {caps:Array Value} (ho:o.op= .call ⟨.value f,args,ts⟩) (hf:ρ f= .func (.func fid) #[] caps) (hc:eD P fid=true):
    (execOp ρ o).run P w= .ok (.enter fid (args.map ρ++caps)) w:=by
  unfold eD at hc
  split at hc
  · rename_i fn hfn
    rw [zba] at hc
    have h1 : (fn.name == "runtime.NumGoroutine") = false := by simpa using hc.1
    have h2:fn.body.isNone=false:=by cases hb:fn.body<;>simp_all
    simp only [execOp,ho,resolve,hf,Deferred.ofValue,Sem.run_bind,Sem.run_pure,Result.andThen_ok,invoke,callFunc,run_program,hfn,h1,h2,Bool.false_eq_true,if_false]
    simp
  · cases hc
theorem axA {o:Oper} {s:St} {f:Operand} {args:Array Operand} {ts:Array TypeId} {fid:FuncId} {caps ps:List PV} {p:PV} (ho:o.op= .call ⟨.value f,args,ts⟩) (hf:opd s f=some (.fn fid caps)) (hps:lL s args.toList=some ps) {qs:List PV} (hw:WkL ps qs) (h:PF P fid (qs++caps) p):OpV P o s p:=by
 intro w g ρ hm hρ
 have rf:=hρ f (by rw [ho];simp [Op.operands,Call.operands]) _ hf
 have ra:=iU hps (g:=g) (ρ:=ρ) (λx hx=>hρ x (by rw [ho];simp [Op.operands,Call.operands];exact .inr (by simpa using hx)))
 simp only [Rep] at rf
 obtain ⟨vs,e,rf⟩:=rf
 obtain ⟨hc,hcall⟩:=h s.st
 rw [afB ho e hc]
 simp only [OpRes]
 have:=hcall w g (args.toList.map ρ++vs) hm ((hw.rep ra).append rf)
 rw [show (args.map ρ++vs.toArray)=(args.toList.map ρ++vs).toArray from by apply Array.toList_inj.1;simp]
 refine this.mono ?_
 rintro e' w' ⟨v,r,st',g',rfl,⟨rfl,rfl⟩,h3,h4,h5,h6,h7⟩
 exact ⟨v,rfl,g',h3,h4,h5,h6⟩
section
variable {l:List Oper} {d:Md} {r:List Oper} {s:St} {K:St->Prop} {t:Nat} {op:Op} {ty:TypeId} {pos:String} {after:Array Edge} {gd:Option (Nat×Bool)}
end
end
end
end Go.Abs
