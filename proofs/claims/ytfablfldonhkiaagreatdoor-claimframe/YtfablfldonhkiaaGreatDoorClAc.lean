import Derived.Test.YtfablfldonhkiaaGreatDoorClAb
import Derived.Test.YtfablfldonhkiaaGreatDoorClAa
import Derived.Test.YtfablfldonhkiaaGreatDoorAbsSort
import Derived.Test.YtfablfldonhkiaaGreatDoorAbsE
set_option linter.unusedSimpArgs false
set_option linter.unusedVariables false
namespace Go.Proofs.YtfablfldonhkiaaGreatDoor
open Go Go.Abs
attribute [local irreducible] Ev PWp
set_option maxRecDepth 10000
set_option maxHeartbeats 4000000
def aJS (s:Sc) (k:Nat):Bool:=(s.take k).any λt=>decide (t.name=s[k]!.name)
theorem aGy {α:Type} {f:α->Bool} {l:List α} {k:Nat} (hk:k<l.length) (hf:f l[k]=true):decide (max (cY f l) 0<k)=(l.take k).any f:=by
 unfold cY;cases h:l.findIdx? f with
 |none=>rw [List.findIdx?_eq_none_iff.1 h _ (zgm hk)] at hf;cases hf
 |some j=>
  obtain ⟨hj,a,hn⟩:=List.findIdx?_eq_some_iff_getElem.1 h;rw [Bool.eq_iff_iff,List.any_eq_true,zde];show max ((j:Nat):Int) 0<k↔_;constructor
  ·intro q
   exact ⟨l[j],List.mem_take_iff_getElem.2 ⟨j,by omega,rfl⟩,a⟩
  ·rintro ⟨x,hx,b⟩
   obtain ⟨i,hi,rfl⟩:=List.mem_take_iff_getElem.1 hx;rcases Nat.lt_or_ge i j with q|q
   ·exact absurd b (by simpa using hn i q)
   ·omega
def lk0 (s:Sc) (k:Nat):Int:=if acR s[k]!.name=false then 1 else if aJS s k=true then 5 else 0
def lk1 (t:Tb):Int:=if t.cols.length<1\/t.cols.length>16\/t.checks.length>16\/t.unique.length>16\/t.foreign.length>16\/t.sums.length>16 then 2 else 0
def lk2 (t:Tb):Int:=eN (apM t) t.cols.length
def lk3 (t:Tb):Int:=if nD t.cols[0]! =false\/t.cols[0]!.null=true then 6 else 0
def lk4 (t:Tb):Int:=eN (amN t) t.unique.length
def lk5 (m:Nat) (t:Tb):Int:=eN (atC m t) t.foreign.length
def lk6 (t:Tb):Int:=eN (aoM t) t.sums.length
def lks (s:Sc) (k:Nat):List Int:=[lk0 s k,lk1 s[k]!,lk2 s[k]!,lk3 s[k]!,lk4 s[k]!,lk5 s.length s[k]!,lk6 s[k]!]
def atI (s:Sc) (k:Nat):Int:=orI (lks s k)
def cE (s:Sc):Int:=if s.length<1\/s.length>16 then 2 else eN (atI s) s.length
structure TbB (t:Tb):Prop where
 c:t.cols.length<200000000000000
 u:t.unique.length<200000000000000
 k:t.checks.length<200000000000000
 f:t.foreign.length<200000000000000
 s:t.sums.length<200000000000000
theorem aDA (s:Sc) (k:Nat) (hl:s.length<200000000000000) (hk:k<s.length):PF Tryz.prog 133 [.agg (scC s),(vi ((k:Nat)))] (vi (lk0 s k)):=by
 have hn:=ahG s[k].name;have ht:=auM s s[k].name hl;have hd:=aGy (f:=λt:Tb=>decide (t.name=s[k].name)) hk (decide_eq_true rfl);change decide (max (aAa s s[k].name) 0<(k:Nat))=_ at hd;have e:lk0 s k=if acR s[k].name=false then 1 else if ((s.take k).any λt=>decide (t.name=s[k].name))=true then 5 else 0:=by unfold lk0 aJS;rw [getElem!_pos s k hk]
 rw [e,<-hd];generalize acR s[k].name=N at*;generalize aAa s s[k].name=R at*;refine pF Tryz.func133 rfl (λst=> ?_)
 (repeat' first|apply wZ;rfl|show Cn _;constructor|exact rfl|apply KR.mk;kernel_rfl|((first|apply hn|apply ht))|(congr 2;grind)|apply wY;rfl|apply wI;rfl|apply gE;omega|intro h)
theorem aEk (s:Sc) (k:Nat) (hk:k<s.length) (a:TbB s[k]):PF Tryz.prog 136 [.agg (scC s),(vi ((k:Nat)))] (vi (lk1 s[k]!)):=by
 rw [getElem!_pos s k hk];obtain ⟨b1,b2,b,c,d⟩:=a;unfold lk1;refine pF Tryz.func136 rfl (λst=> ?_)
 (repeat' first|apply wZ;rfl|constructor|((first|rw [zp (by omega)];done|rw [zn (by omega)];done))|apply aLh;(iterate 6 rfl);rotate_left;rfl;rfl|apply wI;rfl|apply gE;omega|(intro h;simp at h))
theorem aCl (s:Sc) (k:Nat) (hk:k<s.length) (a:TbB s[k]):PF Tryz.prog 137 [.agg (scC s),(vi ((k:Nat)))] (vi (lk2 s[k]!)):=by
 rw [getElem!_pos s k hk];have h:=ajC s[k] a.c;change PF _ _ _ (vi (lk2 s[k])) at h;refine pF Tryz.func137 rfl (λst=> ?_)
 (repeat' first|apply wZ;rfl|constructor|(apply h)|apply wY;rfl|apply wI;rfl|apply gE;omega)
theorem aDT (s:Sc) (k:Nat) (hk:k<s.length) (hc:0<s[k].cols.length):PF Tryz.prog 139 [.agg (scC s),(vi ((k:Nat)))] (vi (lk3 s[k]!)):=by
 rw [getElem!_pos s k hk];unfold lk3;rw [getElem!_pos s[k].cols 0 hc];have h:=eC s[k].cols[0];generalize nD s[k].cols[0]=N at*;refine pF Tryz.func139 rfl (λst=> ?_)
 (repeat' first|apply wZ;rfl|constructor|(apply h)|(congr 2;grind)|apply wY;rfl|apply wI;rfl|apply gE;omega|intro h)
theorem aED (s:Sc) (k:Nat) (hk:k<s.length) (a:TbB s[k]):PF Tryz.prog 141 [.agg (scC s),(vi ((k:Nat)))] (vi (lk4 s[k]!)):=by
 rw [getElem!_pos s k hk];have h:=ajU s[k] a.c a.u;change PF _ _ _ (vi (lk4 s[k])) at h;refine pF Tryz.func141 rfl (λst=> ?_)
 (repeat' first|apply wZ;rfl|constructor|(apply h)|apply wY;rfl|apply wI;rfl|apply gE;omega)
theorem aEn (s:Sc) (k:Nat) (hk:k<s.length) (a:TbB s[k]):PF Tryz.prog 143 [.agg (scC s),(vi ((k:Nat)))] (vi (lk5 s.length s[k]!)):=by
 rw [getElem!_pos s k hk];have h:=afO s s[k] a.c a.f;change PF _ _ _ (vi (lk5 s.length s[k])) at h;refine pF Tryz.func143 rfl (λst=> ?_)
 (repeat' first|apply wZ;rfl|show Cn _;constructor|exact rfl|apply KR.mk;kernel_rfl|(apply h)|apply wY;rfl|apply wI;rfl|apply gE;omega)
theorem aCf (s:Sc) (k:Nat) (hk:k<s.length) (a:TbB s[k]):PF Tryz.prog 145 [.agg (scC s),(vi ((k:Nat)))] (vi (lk6 s[k]!)):=by
 rw [getElem!_pos s k hk];have h:=aAm s[k] a.c a.s;change PF _ _ _ (vi (lk6 s[k])) at h;refine pF Tryz.func145 rfl (λst=> ?_)
 (repeat' first|apply wZ;rfl|constructor|(apply h)|apply wY;rfl|apply wI;rfl|apply gE;omega)
def looksF :List FuncId:=[133,136,137,139,141,143,145]
theorem arM :PF Tryz.prog 85 [] (.seq (looksF.map λf=>[.fn f []])):=by
 refine pF Tryz.func85 rfl (λst=> ?_)
 (repeat' first|apply wZ;rfl|constructor)
theorem axA (s:Sc) (k:Nat):(lks s k).length=7:=rfl
theorem aBB (s:Sc) (k y:Nat) (hl:s.length<200000000000000) (hk:k<s.length) (a:TbB s[k]) (hy:y<7) (hz:∀j (h:j<y),(lks s k)[j]'(by rw [axA];omega)=0):PF Tryz.prog (looksF[y]'hy) [.agg (scC s),(vi ((k:Nat)))] (vi ((lks s k)[y]'hy)):=by
 rcases (show y=0\/y=1\/y=2\/y=3\/y=4\/y=5\/y=6 by omega) with rfl|rfl|rfl|rfl|rfl|rfl|rfl
 ·exact aDA s k hl hk
 ·exact aEk s k hk a
 ·exact aCl s k hk a
 ·have b:lk1 s[k]! =0:=hz 1 (by omega)
  rw [getElem!_pos s k hk] at b;have:0<s[k].cols.length:=by
   unfold lk1 at b;split at b
   ·omega
   ·omega
  exact aDT s k hk this
 ·exact aED s k hk a
 ·exact aEn s k hk a
 ·exact aCf s k hk a
theorem yV (s:Sc) (hl:s.length<200000000000000) (hB:∀t∈s,TbB t):PF Tryz.prog 50 [.agg (scC s)] (vi (cE s)):=by
 have hlk:=arM
 unfold cE
 by_cases h16:s.length<1\/s.length>16
 ·rw [zp h16]
  refine pF Tryz.func50 rfl (λst=> ?_)
  (repeat' first|(refine agL (λ_ _ h=>h) ?_)|apply wZ;rfl|constructor|intro h;simp at h;omega|intro h)
 rw [zn h16]
 refine pF Tryz.func50 rfl (λst=> ?_)
 (repeat' first|(refine agL (λ_ _ h=>h) ?_)|(refine aA8 ?_)|apply wZ;rfl|constructor|intro h;simp at h;omega|intro h)
 refine aC (X:={x:Nat//x<=s.length/\∀j<x,atI s j=0}) (λi=>(((((St.nil 39 st).var 1 24 ((scC s))).pv 3 ((vi (0)))).pv 19 ((vi (((s.map Tb.cells).length:Nat))))).pv 20 ((vi ((i.1:Nat)))))) (λi=>s.length-i.1) ⟨0,by omega,by omega⟩ ?_ (λi=> ?_)
 ·(repeat' first|constructor)
 obtain ⟨i,hi,hI⟩:=i
 dsimp only
 by_cases hend:s.length<=i
 ·rw [aoD (f:=atI s) (n:=s.length) λj hj=>hI j (by omega)]
  (repeat' first|apply wZ;rfl|constructor|simp only [zql];omega|intro h)
 have hil:i<s.length:=by omega
 have hBi:=hB s[i] (zgm hil)
 (repeat' first|apply wZ;rfl|constructor|(apply hlk)|apply wY;rfl|simp only [zql];omega|intro h)
 refine aC (X:={x:Nat//x<=7/\∀j (h:j<x) (h7:j<7),(lks s i)[j]'h7=0}) (λy=>(((((((((St.nil 39 st).var 1 24 ((scC s))).pv 3 ((vi (0)))).pv 4 ((vi ((i:Nat))))).pv 19 ((vi (((s.map Tb.cells).length:Nat))))).pv 20 ((vi ((i:Nat))))).pv 23 (.seq (looksF.map λf=>[.fn f []]))).pv 24 ((vi ((7:Nat))))).pv 25 ((vi ((y.1:Nat)))))) (λy=>7-y.1) ⟨0,by omega,by omega⟩ ?_ (λy=> ?_)
 ·(repeat' first|constructor)
 obtain ⟨y,hy,hyI⟩:=y
 dsimp only
 by_cases hend2:7<=y
 ·have e:atI s i=0:=by
   unfold atI
   refine aB5 λx hx=> ?_
   obtain ⟨j,hj,rfl⟩:=zgo hx
   exact hyI j (by rw [axA] at hj;omega) hj
  (repeat' first|(refine ⟨⟨i+1,by omega,λj hj=>by rcases zls.1 hj with q|q;exact hI j q;subst q;exact e⟩, ?_, ?_⟩)|apply wZ;rfl|show Cn _;constructor|exact rfl|omega|simp only [zql];omega|intro h)
 have hy7:y<7:=by omega
 have hc:=aBB s i y hl hil hBi hy7 λj hj=>hyI j hj (by omega)
 have hF:(lks s i)[y]'hy7≠0->eN (atI s) s.length=(lks s i)[y]'hy7:=λh=>by
  have e:atI s i=(lks s i)[y]'hy7:=aDx (l:=lks s i) hy7 h λj hj h2=>hyI j hj h2
  rw [aoB hil (by rw [e];exact h) hI,e]
 have hS:(lks s i)[y]'hy7=0->∀j (h:j<y+1) (h7:j<7),(lks s i)[j]'h7=0:=λh j hj h7=>by
  rcases zls.1 hj with q|q
  ·exact hyI j q h7
  ·subst q;exact h
 generalize (lks s i)[y]'hy7=R at*
 have hrow:(looksF.map λf=>[PV.fn f []])[y]?=some [.fn (looksF[y]'hy7) []]:=awL (f:=λf=>[PV.fn f []]) (l:=looksF) hy7
 generalize (looksF[y]'hy7)=F at*
 (repeat' first|(refine ⟨⟨y+1,by omega,hS ‹_›⟩, ?_, ?_⟩)|apply wZ;rfl|show Cn _;constructor|exact rfl|apply dM pk;(iterate 6 rfl);rotate_left;rfl;(intro hw;rfl);(intro hw;apply (λ_=>hrow)<;>omega);(intro _;rfl);rfl|(apply hc)|rw [hF ‹_›]|show _=_;((simp only [show R=0 from by assumption]))|apply wY;rfl|omega|simp only [zql];omega|intro h|intro h)
theorem ahO (zs:List Int) {st:aD} {id n:Nat} (b:st id=some (.arr 3 (zs.map I1))) (hn:zs.length=n) (a:n<4611686018427387904):
  PC Tryz.prog 59 [.vec id 1 0 n] st λ_ S=>S=upd st id (some (.arr 3 ((zs.mergeSort λx y=>decide (x<=y)).map I1))):=
 aDt (P:=Tryz.prog) aLa (by kernel_rfl) (by kernel_rfl) b hn a
theorem dG {st:aD} {id a:Nat} {o:AObj} (h:upd st id (some o) a=none):st a=none:=by
 by_cases e:a=id
 ·subst e;rw [aA] at h;cases h
 ·rwa [aB e] at h
theorem lR :Tryz.prog.bytesOf 3=8:=by kernel_rfl
theorem arX (l:List Dt) (st:aD) (hl:l.length<1000000000000):PC Tryz.prog 196 [.seq (l.map Dt.cells)] st (LR 80 2 st (l.map Dt.cells)):=by
 refine pC Tryz.func196 rfl ?_
 (repeat' first|show Cn (.r _ _ _);refine .rr ?_;((first|exact .inr ⟨rfl,hb h,zsr _⟩|exact .inl ⟨c,by rw [zql],a,aA _ _ _,cD a⟩));done|apply wZ;rfl|constructor|(apply ap0 pk (f:=Dt.cells) l 16;(iterate 10 rfl);exact λ_=>rfl;exact λ_=>rfl;exact axL;(omega);(omega);rfl;intro c a)|(apply aDp pk;(iterate 6 rfl);intro b hb)|intro h)
theorem agX (l:List Dt) (st:aD) (hl:l.length<1000000000000):PC Tryz.prog 196 [.seq (l.map Dt.cells)] st λp S=>∃id,p= .vec id 2 0 l.length/\st id=none/\S=upd st id (some (.arr 80 (l.map Dt.cells))):=
 yH (adI (arX l st hl)) λp st' ⟨id,a,b,c⟩=>⟨p,st',zwr _,zsr _,id,by rw [a,zql],b,c⟩
def cG (xs:List Dt) (i:Nat) (a:List Dt):List Dt:=xs.take i++a++xs.drop i
theorem aoO (xs:List Dt) (i:Nat) (a:List Dt):(cG xs i a).map Dt.cells=(xs.map Dt.cells).take i++a.map Dt.cells++(xs.map Dt.cells).drop i:=by
 unfold cG;rw [List.map_append,List.map_append,List.map_take,List.map_drop]
theorem rN {xs:List Dt} {i:Nat} {a:List Dt} (hi:i<=xs.length):(cG xs i a).length=xs.length+a.length:=by
 unfold cG;simp only [zla,zlt,zld];omega
def aDI (st:aD) (id:Nat) (zs:List Dt) (r:PV) (S:aD):Prop:=∃a,r= .vec a 2 0 zs.length/\upd st id none a=none/\S=upd (upd st id none) a (some (.arr 80 (zs.map Dt.cells)))
theorem anJ (xs g:List Dt) (i id n:Nat) (st:aD) (N:st id=some (.arr 80 (xs.map Dt.cells))) (hn:xs.length=n) (hi:i<=n) (hy:g≠[]) (hl:n+g.length<1000000000000):PC Tryz.prog 195 [.vec id 2 0 n,(vi ((i:Nat))), .seq (g.map Dt.cells)] st (aDI st id (cG xs i g)):=by
 obtain ⟨m,hm⟩:∃m,g.length=m:=⟨_,rfl⟩;have t:(g.map Dt.cells).length=m:=(zql _).trans hm;have U:0<m:=by rw [<-hm];exact List.length_pos_iff.2 hy
 rw [hm] at hl;have v:(cG xs i g).length=n+m:=by rw [rN (by omega),hn,hm]
 have F:=aoO xs i g;have Q:=axL;refine pC Tryz.func195 rfl ?_;by_cases M:i=n
 ·subst M
  have hz:cG xs i g=xs++g:=by unfold cG;rw [ztl (by omega),List.drop_of_length_le (by omega),List.append_nil]
  (repeat' first|show Cn (.r _ _ _);refine .rr ?_;(exact ⟨P,(by rw [v,hm]),jU E,(by rw [hz];rfl)⟩);done|apply wZ;rfl|show Cn _;constructor|(apply apV pk (f:=Dt.cells) g 16;(iterate 9 rfl);(assumption);(omega);exact λ_=>rfl;exact λ_=>rfl;exact Q;(omega);(omega);rfl;intro P E)|apply ayA pk i i;(iterate 4 rfl);rotate_left;rfl;(intro _;exact aL rfl rfl);(intro _;exact aZ);(intro _;omega);(intro _;omega);rfl|omega|(intro h;simp at h))
 have T:i<n:=by omega
 have s:(xs.map Dt.cells).length=n:=(zql _).trans hn;have x:∀r∈xs.map Dt.cells,r.all PV.one=true:=λr q=>by obtain ⟨a,_,rfl⟩:=List.mem_map.1 q;rfl
 have y:∀r∈xs.map Dt.cells,r.length=2:=λr q=>by obtain ⟨a,_,rfl⟩:=List.mem_map.1 q;rfl
 have B:∀r∈g.map Dt.cells,r.all PV.one=true:=λr q=>by obtain ⟨a,_,rfl⟩:=List.mem_map.1 q;rfl
 have p:∀r∈g.map Dt.cells,r.length=2:=λr q=>by obtain ⟨a,_,rfl⟩:=List.mem_map.1 q;rfl
 have hj:∀k,(xs.map Dt.cells++aW k 2).length=n+k:=λk=>by rw [zla,s];unfold aW;rw [List.length_replicate]
 generalize R:xs.map Dt.cells=X at*;generalize S:g.map Dt.cells=Y at*;have I:Y≠[]:=λe=>by rw [e] at t;simp at t;omega
 obtain ⟨Z,W,yr,H⟩:∃c cs G,Y=(c::cs)::G:=by
  cases A:Y with
  |nil=>exact absurd A I
  |cons a b=>
   cases ha:a with
   |nil=>have:=p a (by rw [A];simp);rw [ha] at this;cases this
   |cons c cs=>exact ⟨c,cs,b,rfl⟩
 refine uW 0 m (id:=id) (rows:=X) rfl N wR s (by omega) (by omega) (λk o hk d=> ?_) (λo d=> ?_)
 ·have d:st o=none:=d
  have O:(X++aW k 2).take i=X.take i:=List.take_append_of_le_length (by omega);have L:(X.take i++aW (n+m-i) 2).length=n+m:=by rw [zla,zlt];unfold aW;rw [List.length_replicate];omega
  have K:(aT (X.take i++aW (n+m-i) 2) i Y).length=n+m:=by rw [dP (by omega),L]
  have u:aT (aT (X.take i++aW (n+m-i) 2) i Y) (i+m) (X.drop i)=(cG xs i g).map Dt.cells:=by rw [F];rw [<-s];exact vG t (by omega)
  (repeat' first|(refine Cn.any ⟨_,_,upd (upd st id none) id2 (some (.arr 80 ((cG xs i g).map Dt.cells))),rfl,zwr _,oO (by rw [u]) d,id2,(by rw [v];congr 1;omega),mO l,rfl⟩)|apply wD pk [8] [];kernel_rfl;rfl;rfl|apply wZ;rfl|show Cn _;constructor|(refine alS pk (rows:=X++aW k 2) rfl rfl rfl rfl (.inr (aA _ _ _)) (by rw [hj];omega) rfl (λc C D=> ?_);have J:=D (aA _ _ _);rw [hj] at J)|apply zQ pk (j:=i) (rows:=X++aW k 2);(iterate 4 rfl);rotate_left;rfl;rfl;exact .inr (aA _ _ _);(rw [hj];omega);exact aL rfl rfl;(rw [hj];omega)|(refine apZ pk (kq:= .i64) (kn:= .i64) (i:=i) (m:=n+m-i) (sz:=2) (rows:=X++aW k 2) 16 rfl (congrArg (λz=>some (PV.val (.int .i64 z))) (show _=((n+m-i:Nat):Int) from by omega)) rfl (by kernel_rfl) rfl rfl rfl rfl (aA _ _ _) (by rw [hj];omega) (by rw [hj];omega) (by rw [hj];omega) Q (by omega) (by omega) (by omega) rfl (λid2 l=> ?_);rw [O];have V:o≠id2:=(λe=>by rw [<-e] at l;have l:=(aA _ _ _).symm.trans l;cases l))|apply eP pk (i) (n+m-i);(iterate 4 rfl);rotate_left;rfl;(intro _;exact ⟨_,aL rfl rfl,by omega⟩);(intro _;exact ⟨_,aZ,by omega⟩);(intro _;omega);(intro _;omega);rfl|apply eP pk (i+m) (n-i);(iterate 4 rfl);rotate_left;rfl;(intro _;exact ⟨_,aL rfl (show _=((i+m:Nat):Int) from by omega),by omega⟩);(intro _;exact ⟨_,aZ,by omega⟩);(intro _;omega);(intro _;omega);rfl|apply eP pk (i) (n-i);(iterate 4 rfl);rotate_left;rfl;(intro _;exact ⟨_,aL rfl rfl,by omega⟩);(intro _;exact ⟨_,aZ,by omega⟩);(intro _;omega);(intro _;omega);rfl|(refine kJ pk (e:=80) (sz:=2) (rows:=X.take i++aW (n+m-i) 2) (new:=Y) (m:=Y.length) (n:=Y.length) (len:=n+m-i) rfl rfl rfl rfl rfl (aA _ _ _) (by omega) (rK aS rfl rfl rfl p B) rfl p (by omega) (by omega) rfl ?_)|(refine kJ pk (e:=80) (sz:=2) (rows:=aT (X.take i++aW (n+m-i) 2) i Y) (new:=X.drop i) (m:=n-i) (n:=n-i) (len:=n-i) rfl rfl rfl rfl rfl (aA _ _ _) (by omega) (mN (k:=k) rfl (.inr ((aB ‹_›).trans ((aB ‹_›).trans (aA _ _ _)))) s (by omega) wR x (by omega) (by omega)) (by rw [zld];omega) (λr q=>y r (List.mem_of_mem_drop q)) (by omega) (by omega) rfl ?_)|omega|(intro h;simp at h)|intro h)
 ·have d:st o=none:=d
  have K:(aT (X++aW m 2) (i+m) (X.drop i)).length=n+m:=by rw [dP (by rw [zld,hj];omega),hj]
  have u:aT (aT (X++aW m 2) (i+m) (X.drop i)) i Y=(cG xs i g).map Dt.cells:=by rw [F];exact vY t (by omega)
  (repeat' first|(refine Cn.any ⟨_,_,upd (upd st id none) o (some (.arr 80 ((cG xs i g).map Dt.cells))),rfl,zwr _,oN (by rw [u]),o,(by rw [v]),jU d,rfl⟩)|apply wD pk [8] [];kernel_rfl;rfl;rfl|apply wZ;rfl|show Cn _;constructor|apply eP pk (i) (n-i);(iterate 4 rfl);rotate_left;rfl;(intro _;exact ⟨_,aL rfl rfl,by omega⟩);(intro _;exact ⟨_,aZ,by omega⟩);(intro _;omega);(intro _;omega);rfl|apply eP pk (i) (n+m-i);(iterate 4 rfl);rotate_left;rfl;(intro _;exact ⟨_,aL rfl rfl,by omega⟩);(intro _;exact ⟨_,aZ,by omega⟩);(intro _;omega);(intro _;omega);rfl|apply eP pk (i+m) (n-i);(iterate 4 rfl);rotate_left;rfl;(intro _;exact ⟨_,aL rfl (show _=((i+m:Nat):Int) from by omega),by omega⟩);(intro _;exact ⟨_,aZ,by omega⟩);(intro _;omega);(intro _;omega);rfl|(refine alS pk (rows:=X++aW m 2) rfl rfl rfl rfl (.inl (aA _ _ _)) (by rw [hj];omega) rfl (λc C D=> ?_);rw [hj] at C)|apply zQ pk (j:=n+m) (rows:=X++aW m 2);(iterate 4 rfl);rotate_left;rfl;rfl;exact .inl (aA _ _ _);(rw [hj];omega);exact aL rfl (show _=((n+m:Nat):Int) from by omega);(rw [hj];omega)|(refine ovA pk (w:=true) (tS:=45) (tR:=4) (off:=i+m) (len:=n-i) (e:=80) (sz:=2) (rows:=X++aW m 2) rfl rfl Tryz.func255 (by kernel_rfl) (by kernel_rfl) (by kernel_rfl) (by kernel_rfl) rfl rfl rfl H rfl (.inl (aA _ _ _)) (by rw [hj];omega) wR (by omega) ?_ rfl rfl ?_;rotate_left)|(refine kJ pk (e:=80) (sz:=2) (rows:=X++aW m 2) (new:=X.drop i) (m:=n+m-i) (n:=n-i) (len:=n-i) rfl rfl rfl rfl rfl (aA _ _ _) (by rw [hj];omega) (mN (k:=m) rfl (.inl (aA _ _ _)) s (by omega) wR x (by omega) (by omega)) (by rw [zld];omega) (λr q=>y r (List.mem_of_mem_drop q)) (by omega) (by omega) rfl ?_)|(refine kJ pk (e:=80) (sz:=2) (rows:=aT (X++aW m 2) (i+m) (X.drop i)) (new:=Y) (m:=Y.length) (n:=Y.length) (len:=n+m-i) rfl rfl rfl rfl rfl (aA _ _ _) (by omega) (rK aS rfl rfl rfl p B) rfl p (by omega) (by omega) rfl ?_)|omega|(intro h;simp at h)|intro h)
theorem aHb (xs a:List Dt) (i id n:Nat) (z:Int) (st:aD) (b:st id=some (.arr 80 (xs.map Dt.cells))) (hn:xs.length=n) (hz:z=((i:Nat):Int)) (hi:i<=n) (hy:a≠[]) (hl:n+a.length<1000000000000):PC Tryz.prog 195 [.vec id 2 0 n,(vi (z)), .seq (a.map Dt.cells)] st (aDI st id (cG xs i a)):=by
 subst hz;exact anJ xs a i id n st b hn hi hy hl
theorem iG {st:aD} {id id2:Nat} {o:Option AObj} (a:st id=none) (h:upd (upd st id o) id none id2=none):st id2=none:=by
 by_cases e:id2=id
 ·rw [e];exact a
 ·rwa [aB e,aB e] at h
theorem kP {st:aD} {id id2:Nat} {o b:Option AObj} (c:st id=none):StSub (upd st id2 b) (upd (upd (upd st id o) id none) id2 b):=λj=>by
 by_cases e:j=id2
 ·subst e;right;rw [aA,aA]
 ·rw [aB e,aB e]
  by_cases a:j=id
  ·subst a;left;exact c
  ·right;rw [aB a,aB a]
theorem alU (x d:Dt):PF Tryz.prog 194 [.agg x.cells, .rp d.cells] (vb (bE x d)):=by
 refine pF Tryz.func194 rfl (λst=> ?_)
 (repeat' first|apply wZ;rfl|constructor|(apply (anE x d))|rw [<-avV]|apply wY;rfl)
def gC (l:List Dt) (d:Dt):Nat:=(l.findIdx? λx=>bE x d).getD l.length
theorem aqL (l:List Dt) (d:Dt):gC l d<=l.length:=by
 unfold gC;cases h:l.findIdx? λx=>bE x d with
 |none=>exact Nat.le_refl _
 |some k=>exact Nat.le_of_lt (List.findIdx?_eq_some_iff_getElem.1 h).1
def cT (a:Ln) (d:Dt):Ln:=if d∈a.by_ then a else {a with by_:=cG a.by_ (gC a.by_ d) [d]}
theorem aE1 (a:Ln) (d:Dt) (st:aD) (hl:a.by_.length<100000000000):PC Tryz.prog 120 [.agg a.cells, .agg d.cells] st λr S=>(r= .agg a.cells/\S=st/\d∈a.by_)\/(d∉a.by_/\∃id,r= .agg [(vi (a.key)), .seq (a.cells_.map Cl.cells), .vec id 2 0 (cG a.by_ (gC a.by_ d) [d]).length]/\st id=none/\S=upd st id (some (.arr 80 ((cG a.by_ (gC a.by_ d) [d]).map Dt.cells)))):=by
 have hc:=afF a.by_ d (by omega);have hi:=aAl 194 [.rp d.cells] (λx=>bE x d) a.by_ (by omega) λx=>alU x d;have f:(a.by_.any λy=>decide (d=y))=decide (d∈a.by_):=by
  rw [Bool.eq_iff_iff,List.any_eq_true,zde];constructor
  ·rintro ⟨y,hy,e⟩;rw [of_decide_eq_true e];exact hy
  ·exact λh=>⟨d,h,decide_eq_true rfl⟩
 rw [f] at hc;by_cases hd:d∈a.by_
 ·rw [decide_eq_true hd] at hc
  refine pC Tryz.func120 rfl ?_
  (repeat' first|(apply hc)|show Cn (.r _ _ _);refine .rr ?_;(exact .inl ⟨rfl,rfl,hd⟩);done|apply wZ;rfl|constructor|apply wY;rfl)
 rw [decide_eq_false hd] at hc;obtain ⟨k,hk⟩:∃k,gC a.by_ d=k:=⟨_,rfl⟩;have c:=aqL a.by_ d;rw [hk] at c⊢;have g:(cG a.by_ k [d]).length=a.by_.length+1:=rN c;rcases Nat.lt_or_ge k a.by_.length with l|i
 ·have b:cY (λx=>bE x d) a.by_=((k:Nat):Int):=by
   unfold cY;unfold gC at hk;cases h:a.by_.findIdx? λx=>bE x d with
   |none=>rw [h] at hk;simp at hk;omega
   |some j=>rw [h] at hk;simp at hk;simp [hk]
  rw [b] at hi;refine pC Tryz.func120 rfl ?_
  (repeat' first|exact Cn.any ⟨_,_,upd st id2 (some (.arr 80 ((cG a.by_ k [d]).map Dt.cells))),rfl,zwr _,kP hid, .inr ⟨hd,id2,rfl,iG hid hid2,rfl⟩⟩|apply wDO pk [0,1,3,4,5,2,6,7,8] [2,6] [] [5,6] [];rfl;rfl;kernel_rfl;rfl;rfl|((first|apply hc|apply hi))|(apply cP;rfl;(apply (agX a.by_ _ (by omega)));rintro _ st' (⟨id,rfl,hid,rfl⟩))|(apply cP;rfl;(apply (anJ a.by_ [d] k id a.by_.length _ (aA _ _ _) rfl (by omega) (by simp) (by simp;omega)));rintro _ st' (⟨id2,rfl,hid2,rfl⟩))|apply wZ;rfl|constructor|apply bC 3;rfl;rfl|apply wY;rfl)
 ·obtain rfl:k=a.by_.length:=by omega
  have b:cY (λx=>bE x d) a.by_= -1:=by
   unfold cY;unfold gC at hk;cases h:a.by_.findIdx? λx=>bE x d with
   |none=>rfl
   |some j=>
    have:=(List.findIdx?_eq_some_iff_getElem.1 h).1;rw [h] at hk;simp at hk;omega
  rw [b] at hi;refine pC Tryz.func120 rfl ?_
  (repeat' first|exact Cn.any ⟨_,_,upd st id2 (some (.arr 80 ((cG a.by_ a.by_.length [d]).map Dt.cells))),rfl,zwr _,kP hid, .inr ⟨hd,id2,rfl,iG hid hid2,rfl⟩⟩|apply wDO pk [0,1,3,4,5,2,6,7,8] [2,6] [] [5,6] [];rfl;rfl;kernel_rfl;rfl;rfl|((first|apply hc|apply hi))|(apply cP;rfl;(apply (agX a.by_ _ (by omega)));rintro _ st' (⟨id,rfl,hid,rfl⟩))|(apply cP;rfl;(apply (aHb a.by_ [d] a.by_.length id a.by_.length _ _ (aA _ _ _) rfl (by simp) (by omega) (by simp) (by simp;omega)));rintro _ st' (⟨id2,rfl,hid2,rfl⟩))|apply wZ;rfl|constructor|apply bC 3;rfl;rfl|apply wY;rfl)
theorem acZ (a:Ln) (d:Dt) (hl:a.by_.length<100000000000):PF Tryz.prog 120 [.agg a.cells, .agg d.cells] (.agg (cT a d).cells):=λst=>
 gF (sz:=2) (aE1 a d st hl) λp st' h=>by
  rcases h with ⟨rfl,rfl,hd⟩|⟨hd,id,rfl,b,rfl⟩
  ·exact .inr ⟨_,_,zwr _,zsr _,by rw [cT,zp hd],rfl⟩
  ·refine .inl ⟨id,80,(cG a.by_ (gC a.by_ d) [d]).map Dt.cells,_,st,aA _ _ _,wR, .agg (.cons .refl (.cons .refl (.cons ?_ .nil))),cD b,by rw [cT,zn hd];rfl,rfl⟩
   have e:((cG a.by_ (gC a.by_ d) [d]).map Dt.cells).length=(cG a.by_ (gC a.by_ d) [d]).length:=zql _;rw [<-e];exact .all
theorem arD (l:List Ln) (st:aD) (hl:l.length<1000000000000):PC Tryz.prog 40 [.seq (l.map Ln.cells)] st (LR 47 3 st (l.map Ln.cells)):=by
 refine pC Tryz.func40 rfl ?_
 (repeat' first|show Cn (.r _ _ _);refine .rr ?_;((first|exact .inr ⟨rfl,hb h,zsr _⟩|exact .inl ⟨c,by rw [zql],a,aA _ _ _,cD a⟩));done|apply wZ;rfl|constructor|(apply ap0 pk (f:=Ln.cells) l 56;(iterate 10 rfl);exact λ_=>rfl;exact λ_=>rfl;exact aiV;(omega);(omega);rfl;intro c a)|(apply aDp pk;(iterate 6 rfl);intro b hb)|intro h)
theorem agY (l:List Ln) (st:aD) (hl:l.length<1000000000000):PC Tryz.prog 40 [.seq (l.map Ln.cells)] st λp S=>∃id,p= .vec id 3 0 l.length/\st id=none/\S=upd st id (some (.arr 47 (l.map Ln.cells))):=
 yH (adI (arD l st hl)) λp st' ⟨id,a,b,c⟩=>⟨p,st',zwr _,zsr _,id,by rw [a,zql],b,c⟩
theorem aqY (l:List Da) (st:aD) (hl:l.length<1000000000000):PC Tryz.prog 81 [.seq (l.map Da.cells)] st (LR 43 1 st (l.map Da.cells)):=by
 refine pC Tryz.func81 rfl ?_
 (repeat' first|show Cn (.r _ _ _);refine .rr ?_;((first|exact .inr ⟨rfl,hb h,zsr _⟩|exact .inl ⟨c,by rw [zql],a,aA _ _ _,cD a⟩));done|apply wZ;rfl|constructor|(apply ap0 pk (f:=Da.cells) l 24;(iterate 10 rfl);exact λ_=>rfl;exact λ_=>rfl;exact aiT;(omega);(omega);rfl;intro c a)|(apply aDp pk;(iterate 6 rfl);intro b hb)|intro h)
theorem aBC (l:List Da) (st:aD) (hl:l.length<1000000000000):PC Tryz.prog 81 [.seq (l.map Da.cells)] st λp S=>∃id,p= .vec id 1 0 l.length/\st id=none/\S=upd st id (some (.arr 43 (l.map Da.cells))):=
 yH (adI (aqY l st hl)) λp st' ⟨id,a,b,c⟩=>⟨p,st',zwr _,zsr _,id,by rw [a,zql],b,c⟩
def dY (xs:List Ln) (i:Nat) (a:List Ln):List Ln:=xs.take i++a++xs.drop i
theorem aoF (xs:List Ln) (i:Nat) (a:List Ln):(dY xs i a).map Ln.cells=(xs.map Ln.cells).take i++a.map Ln.cells++(xs.map Ln.cells).drop i:=by
 unfold dY;rw [List.map_append,List.map_append,List.map_take,List.map_drop]
theorem zF {xs:List Ln} {i:Nat} {a:List Ln} (hi:i<=xs.length):(dY xs i a).length=xs.length+a.length:=by
 unfold dY;simp only [zla,zlt,zld];omega
def aJB (st:aD) (id:Nat) (zs:List Ln) (r:PV) (S:aD):Prop:=∃a,r= .vec a 3 0 zs.length/\upd st id none a=none/\S=upd (upd st id none) a (some (.arr 47 (zs.map Ln.cells)))
theorem aCN (xs g:List Ln) (i id n:Nat) (st:aD) (N:st id=some (.arr 47 (xs.map Ln.cells))) (hn:xs.length=n) (hi:i<=n) (hy:g≠[]) (hl:n+g.length<1000000000000):PC Tryz.prog 41 [.vec id 3 0 n,(vi ((i:Nat))), .seq (g.map Ln.cells)] st (aJB st id (dY xs i g)):=by
 obtain ⟨m,hm⟩:∃m,g.length=m:=⟨_,rfl⟩;have t:(g.map Ln.cells).length=m:=(zql _).trans hm;have U:0<m:=by rw [<-hm];exact List.length_pos_iff.2 hy
 rw [hm] at hl;have v:(dY xs i g).length=n+m:=by rw [zF (by omega),hn,hm]
 have F:=aoF xs i g;have Q:=aiV;refine pC Tryz.func41 rfl ?_;by_cases M:i=n
 ·subst M
  have hz:dY xs i g=xs++g:=by unfold dY;rw [ztl (by omega),List.drop_of_length_le (by omega),List.append_nil]
  (repeat' first|show Cn (.r _ _ _);refine .rr ?_;(exact ⟨P,(by rw [v,hm]),jU E,(by rw [hz];rfl)⟩);done|apply wZ;rfl|show Cn _;constructor|(apply apV pk (f:=Ln.cells) g 56;(iterate 9 rfl);(assumption);(omega);exact λ_=>rfl;exact λ_=>rfl;exact Q;(omega);(omega);rfl;intro P E)|apply ayA pk i i;(iterate 4 rfl);rotate_left;rfl;(intro _;exact aL rfl rfl);(intro _;exact aZ);(intro _;omega);(intro _;omega);rfl|omega|(intro h;simp at h))
 have T:i<n:=by omega
 have s:(xs.map Ln.cells).length=n:=(zql _).trans hn;have x:∀r∈xs.map Ln.cells,r.all PV.one=true:=λr q=>by obtain ⟨a,_,rfl⟩:=List.mem_map.1 q;rfl
 have y:∀r∈xs.map Ln.cells,r.length=3:=λr q=>by obtain ⟨a,_,rfl⟩:=List.mem_map.1 q;rfl
 have B:∀r∈g.map Ln.cells,r.all PV.one=true:=λr q=>by obtain ⟨a,_,rfl⟩:=List.mem_map.1 q;rfl
 have p:∀r∈g.map Ln.cells,r.length=3:=λr q=>by obtain ⟨a,_,rfl⟩:=List.mem_map.1 q;rfl
 have hj:∀k,(xs.map Ln.cells++aW k 3).length=n+k:=λk=>by rw [zla,s];unfold aW;rw [List.length_replicate]
 generalize R:xs.map Ln.cells=X at*;generalize S:g.map Ln.cells=Y at*;have I:Y≠[]:=λe=>by rw [e] at t;simp at t;omega
 obtain ⟨Z,W,yr,H⟩:∃c cs G,Y=(c::cs)::G:=by
  cases A:Y with
  |nil=>exact absurd A I
  |cons a b=>
   cases ha:a with
   |nil=>have:=p a (by rw [A];simp);rw [ha] at this;cases this
   |cons c cs=>exact ⟨c,cs,b,rfl⟩
 refine uW 0 m (id:=id) (rows:=X) rfl N rS s (by omega) (by omega) (λk o hk d=> ?_) (λo d=> ?_)
 ·have d:st o=none:=d
  have O:(X++aW k 3).take i=X.take i:=List.take_append_of_le_length (by omega);have L:(X.take i++aW (n+m-i) 3).length=n+m:=by rw [zla,zlt];unfold aW;rw [List.length_replicate];omega
  have K:(aT (X.take i++aW (n+m-i) 3) i Y).length=n+m:=by rw [dP (by omega),L]
  have u:aT (aT (X.take i++aW (n+m-i) 3) i Y) (i+m) (X.drop i)=(dY xs i g).map Ln.cells:=by rw [F];rw [<-s];exact vG t (by omega)
  (repeat' first|(refine Cn.any ⟨_,_,upd (upd st id none) id2 (some (.arr 47 ((dY xs i g).map Ln.cells))),rfl,zwr _,oO (by rw [u]) d,id2,(by rw [v];congr 1;omega),mO l,rfl⟩)|apply wD pk [8] [];kernel_rfl;rfl;rfl|apply wZ;rfl|show Cn _;constructor|(refine alS pk (rows:=X++aW k 3) rfl rfl rfl rfl (.inr (aA _ _ _)) (by rw [hj];omega) rfl (λc C D=> ?_);have J:=D (aA _ _ _);rw [hj] at J)|apply zQ pk (j:=i) (rows:=X++aW k 3);(iterate 4 rfl);rotate_left;rfl;rfl;exact .inr (aA _ _ _);(rw [hj];omega);exact aL rfl rfl;(rw [hj];omega)|(refine apZ pk (kq:= .i64) (kn:= .i64) (i:=i) (m:=n+m-i) (sz:=3) (rows:=X++aW k 3) 56 rfl (congrArg (λz=>some (PV.val (.int .i64 z))) (show _=((n+m-i:Nat):Int) from by omega)) rfl (by kernel_rfl) rfl rfl rfl rfl (aA _ _ _) (by rw [hj];omega) (by rw [hj];omega) (by rw [hj];omega) Q (by omega) (by omega) (by omega) rfl (λid2 l=> ?_);rw [O];have V:o≠id2:=(λe=>by rw [<-e] at l;have l:=(aA _ _ _).symm.trans l;cases l))|apply eP pk (i) (n+m-i);(iterate 4 rfl);rotate_left;rfl;(intro _;exact ⟨_,aL rfl rfl,by omega⟩);(intro _;exact ⟨_,aZ,by omega⟩);(intro _;omega);(intro _;omega);rfl|apply eP pk (i+m) (n-i);(iterate 4 rfl);rotate_left;rfl;(intro _;exact ⟨_,aL rfl (show _=((i+m:Nat):Int) from by omega),by omega⟩);(intro _;exact ⟨_,aZ,by omega⟩);(intro _;omega);(intro _;omega);rfl|apply eP pk (i) (n-i);(iterate 4 rfl);rotate_left;rfl;(intro _;exact ⟨_,aL rfl rfl,by omega⟩);(intro _;exact ⟨_,aZ,by omega⟩);(intro _;omega);(intro _;omega);rfl|(refine kJ pk (e:=47) (sz:=3) (rows:=X.take i++aW (n+m-i) 3) (new:=Y) (m:=Y.length) (n:=Y.length) (len:=n+m-i) rfl rfl rfl rfl rfl (aA _ _ _) (by omega) (rK aS rfl rfl rfl p B) rfl p (by omega) (by omega) rfl ?_)|(refine kJ pk (e:=47) (sz:=3) (rows:=aT (X.take i++aW (n+m-i) 3) i Y) (new:=X.drop i) (m:=n-i) (n:=n-i) (len:=n-i) rfl rfl rfl rfl rfl (aA _ _ _) (by omega) (mN (k:=k) rfl (.inr ((aB ‹_›).trans ((aB ‹_›).trans (aA _ _ _)))) s (by omega) rS x (by omega) (by omega)) (by rw [zld];omega) (λr q=>y r (List.mem_of_mem_drop q)) (by omega) (by omega) rfl ?_)|omega|(intro h;simp at h)|intro h)
 ·have d:st o=none:=d
  have K:(aT (X++aW m 3) (i+m) (X.drop i)).length=n+m:=by rw [dP (by rw [zld,hj];omega),hj]
  have u:aT (aT (X++aW m 3) (i+m) (X.drop i)) i Y=(dY xs i g).map Ln.cells:=by rw [F];exact vY t (by omega)
  (repeat' first|(refine Cn.any ⟨_,_,upd (upd st id none) o (some (.arr 47 ((dY xs i g).map Ln.cells))),rfl,zwr _,oN (by rw [u]),o,(by rw [v]),jU d,rfl⟩)|apply wD pk [8] [];kernel_rfl;rfl;rfl|apply wZ;rfl|show Cn _;constructor|apply eP pk (i) (n-i);(iterate 4 rfl);rotate_left;rfl;(intro _;exact ⟨_,aL rfl rfl,by omega⟩);(intro _;exact ⟨_,aZ,by omega⟩);(intro _;omega);(intro _;omega);rfl|apply eP pk (i) (n+m-i);(iterate 4 rfl);rotate_left;rfl;(intro _;exact ⟨_,aL rfl rfl,by omega⟩);(intro _;exact ⟨_,aZ,by omega⟩);(intro _;omega);(intro _;omega);rfl|apply eP pk (i+m) (n-i);(iterate 4 rfl);rotate_left;rfl;(intro _;exact ⟨_,aL rfl (show _=((i+m:Nat):Int) from by omega),by omega⟩);(intro _;exact ⟨_,aZ,by omega⟩);(intro _;omega);(intro _;omega);rfl|(refine alS pk (rows:=X++aW m 3) rfl rfl rfl rfl (.inl (aA _ _ _)) (by rw [hj];omega) rfl (λc C D=> ?_);rw [hj] at C)|apply zQ pk (j:=n+m) (rows:=X++aW m 3);(iterate 4 rfl);rotate_left;rfl;rfl;exact .inl (aA _ _ _);(rw [hj];omega);exact aL rfl (show _=((n+m:Nat):Int) from by omega);(rw [hj];omega)|(refine ovA pk (w:=true) (tS:=41) (tR:=4) (off:=i+m) (len:=n-i) (e:=47) (sz:=3) (rows:=X++aW m 3) rfl rfl Tryz.func79 (by kernel_rfl) (by kernel_rfl) (by kernel_rfl) (by kernel_rfl) rfl rfl rfl H rfl (.inl (aA _ _ _)) (by rw [hj];omega) rS (by omega) ?_ rfl rfl ?_;rotate_left)|(refine kJ pk (e:=47) (sz:=3) (rows:=X++aW m 3) (new:=X.drop i) (m:=n+m-i) (n:=n-i) (len:=n-i) rfl rfl rfl rfl rfl (aA _ _ _) (by rw [hj];omega) (mN (k:=m) rfl (.inl (aA _ _ _)) s (by omega) rS x (by omega) (by omega)) (by rw [zld];omega) (λr q=>y r (List.mem_of_mem_drop q)) (by omega) (by omega) rfl ?_)|(refine kJ pk (e:=47) (sz:=3) (rows:=aT (X++aW m 3) (i+m) (X.drop i)) (new:=Y) (m:=Y.length) (n:=Y.length) (len:=n+m-i) rfl rfl rfl rfl rfl (aA _ _ _) (by omega) (rK aS rfl rfl rfl p B) rfl p (by omega) (by omega) rfl ?_)|omega|(intro h;simp at h)|intro h)
abbrev Bs :=List Da
def bsC (b:Bs):List PV:=[.seq (b.map Da.cells)]
def okT (b:Bs) (k:Int):Bool:=decide (0<=k)&&decide (k<b.length)
def aF (b:Bs) (k:Int):List Ln:=if okT b k then (b[k.toNat]!).lines else []
theorem axJ (b:Bs) (k:Int) (h:okT b k=false):PF Tryz.prog 33 [.agg (bsC b),(vi (k))] (.tup [.agg [.seq [], .seq [],(vi (0))],(vb (false))]):=by
 unfold okT at h;simp only [Bool.and_eq_false_iff,decide_eq_false_iff_not] at h;refine pF Tryz.func33 rfl (λst=> ?_)
 (repeat' first|show Cn (.e _ _ _ _);refine .any ?_;((refine ⟨_,_,_,rfl,zwf _,zsr _, ?_,rfl⟩;(rfl)))|apply wZ;rfl|constructor|intro h;simp at h;omega|intro h)
theorem adR (b:Bs) (k:Nat) (h:k<b.length):PF Tryz.prog 33 [.agg (bsC b),(vi ((k:Nat)))] (.tup [.agg [.seq (b[k].lines.map Ln.cells), .seq (b.map Da.cells),(vi ((k:Nat)))],(vb (true))]):=by
 refine pF Tryz.func33 rfl (λst=> ?_)
 (repeat' first|apply wZ;rfl|show Cn _;constructor|exact rfl|apply KR.mk;kernel_rfl|apply wI;rfl|apply gE;omega|simp only [zql];omega|intro h)
theorem aDe (x:Ln) (k:Int):PF Tryz.prog 72 [.agg x.cells, .rp [(vi (k))]] (vb (decide (x.key=k))):=by
 refine pF Tryz.func72 rfl (λst=> ?_)
 (repeat' first|apply wZ;rfl|constructor)
theorem aFb (x:Ln) (k:Int):PF Tryz.prog 73 [.agg x.cells, .rp [(vi (k))]] (vb (decide (x.key>k))):=by
 refine pF Tryz.func73 rfl (λst=> ?_)
 (repeat' first|apply wZ;rfl|constructor)
def atP (l:List Ln) (k:Int):Int×Bool:=
 if cY (λx=>decide (x.key=k)) l>=0 then (cY (λx=>decide (x.key=k)) l,true)
 else if cY (λx=>decide (x.key>k)) l>=0 then (cY (λx=>decide (x.key>k)) l,false) else (l.length,false)
theorem akD (l:List Ln) (k:Int) (hl:l.length<1000000000000):PF Tryz.prog 34 [.seq (l.map Ln.cells),(vi (k))] (.tup [(vi ((atP l k).1)),(vb ((atP l k).2))]):=by
 have a:=agV 72 [.rp [(vi (k))]] (λx=>decide (x.key=k)) l (by omega) λx=>aDe x k;have b:=agV 73 [.rp [(vi (k))]] (λx=>decide (x.key>k)) l (by omega) λx=>aFb x k;unfold atP;generalize cY (λx=>decide (x.key=k)) l=A at*;generalize cY (λx=>decide (x.key>k)) l=B at*;refine pF Tryz.func34 rfl (λst=> ?_)
 (repeat' first|apply wZ;rfl|constructor|((first|apply a|apply b))|((first|rw [zp (by omega)];done|rw [zn (by omega),zp (by omega)];done|rw [zn (by omega),zn (by omega)];simp))|apply bC 3;rfl;rfl|apply wY;rfl|intro h)
theorem aAk {st:aD} {id:Nat} {o:Option AObj} {a b:AObj} (h:b=a):StSub (upd st id (some a)) (upd (upd st id o) id (some b)):=λj=>by
 subst h
 right
 by_cases e:j=id
 ·subst e;rw [aA,aA]
 ·simp only [aB e]
theorem aFu (b:Bs) (a c:List Ln) (k:Nat) (st:aD) (hk:k<b.length) (hl:b.length<100000000000):PC Tryz.prog 42 [.agg [.seq (c.map Ln.cells), .seq (b.map Da.cells),(vi ((k:Nat)))], .seq (a.map Ln.cells)] st λr S=>∃id,r= .agg [.vec id 1 0 b.length]/\st id=none/\S=upd st id (some (.arr 43 ((b.set k ⟨a⟩).map Da.cells))):=by
 refine pC Tryz.func42 rfl ?_
 (repeat' first|refine Cn.any ⟨_,_,upd st id (some (.arr 43 ((b.set k ⟨a⟩).map Da.cells))),rfl,zwr _, ?_,id,rfl,hid,rfl⟩;exact aAk (by simp)|(apply cP;rfl;(apply (aBC b _ (by omega)));rintro _ st' (⟨id,rfl,hid,rfl⟩))|apply wZ;rfl|constructor|apply ixA pk;(iterate 5 rfl);rotate_left;rfl;(intro hw;(exact (show _=((k:Nat):Int) from by omega)));(intro hw;(omega));rfl;(exact Nat.zero_add _)|apply stA pk Da.elem;rfl;rfl;rfl;(exact aA _ _ _);(omega);rfl|apply wY;rfl)
theorem aAf (b:Bs) (a c:List Ln) (k:Nat) (hk:k<b.length) (hl:b.length<100000000000):PF Tryz.prog 42 [.agg [.seq (c.map Ln.cells), .seq (b.map Da.cells),(vi ((k:Nat)))], .seq (a.map Ln.cells)] (.agg (bsC (b.set k ⟨a⟩))):=λst=>
 gF (sz:=1) (aFu b a c k st hk hl) λp st' h=>by
  obtain ⟨id,rfl,d,rfl⟩:=h
  refine .inl ⟨id,43,(b.set k ⟨a⟩).map Da.cells,_,st,aA _ _ _,ajA, .agg (.cons ?_ .nil),cD d,rfl,rfl⟩
  have e:((b.set k ⟨a⟩).map Da.cells).length=b.length:=by simp
  rw [<-e];exact .all
theorem aB1 (b:Bs) (a d:List Ln) (k id n:Nat) (st:aD) (c:st id=some (.arr 47 (a.map Ln.cells))) (hn:a.length=n) (hk:k<b.length) (hl:b.length<100000000000):PC Tryz.prog 42 [.agg [.seq (d.map Ln.cells), .seq (b.map Da.cells),(vi ((k:Nat)))], .vec id 3 0 n] st λr S=>r= .agg (bsC (b.set k ⟨a⟩))/\S=upd st id none:=
 PC.freeze2 c rS ((zql _).trans hn) (aAf b a d k hk hl _)
theorem acJ {α:Type} (f:α->Bool) (l:List α):(∃j:Nat,j<l.length/\cY f l=j)\/cY f l= -1:=by
 unfold cY;cases h:l.findIdx? f with
 |none=>exact .inr rfl
 |some j=>exact .inl ⟨j,(List.findIdx?_eq_some_iff_getElem.1 h).1,rfl⟩
theorem alL (l:List Ln) (k:Int):∃j:Nat,j<=l.length/\(atP l k).1=j/\((atP l k).2=true->j<l.length):=by
 unfold atP;rcases acJ (λx:Ln=>decide (x.key=k)) l with ⟨j,hj,e⟩|e
 ·rw [zp (by omega)];exact ⟨j,by omega,e,λ_=>hj⟩
 ·rw [zn (by omega)]
  rcases acJ (λx:Ln=>decide (x.key>k)) l with ⟨j,hj,e⟩|e
  ·rw [zp (by omega)];exact ⟨j,by omega,e,λh=>by cases h⟩
  ·rw [zn (by omega)];exact ⟨l.length,Nat.le_refl _,rfl,λh=>by cases h⟩
def gX (l:List Ln) (a:Ln):List Ln:=if (atP l a.key).2 then l.set (atP l a.key).1.toNat a else dY l (atP l a.key).1.toNat [a]
def bN (b:Bs) (k:Int) (a:Ln):Bs:=if okT b k then b.set k.toNat ⟨gX (aF b k) a⟩ else b
theorem qC (b:Bs) (k:Int) (a:Ln) (hl:b.length<100000000000) (e:∀d∈b,d.lines.length<100000000000):PF Tryz.prog 17 [.agg (bsC b),(vi (k)), .agg a.cells] (.agg (bsC (bN b k a))):=by
 unfold bN;cases c:okT b k with
 |false=>
  have ho:=axJ b k c;rw [zn (by simp)];refine pF Tryz.func17 rfl (λst=> ?_)
  (repeat' first|apply wZ;rfl|constructor|(apply ho)|apply wY;rfl)
 |true=>
  obtain ⟨q,rfl,hq⟩:∃q:Nat,k=q/\q<b.length:=by
   unfold okT at c;simp only [zba,zde] at c;exact ⟨k.toNat,by omega,by omega⟩
  have ho:=adR b q hq;have m:=e b[q] (zgm hq);have f:aF b q=b[q].lines:=by unfold aF;rw [zp c];simp [hq]
  rw [zp rfl,f,Int.toNat_natCast];generalize i:b[q].lines=L at*;have ha:=akD L a.key (by omega);obtain ⟨j,hj,g,h⟩:=alL L a.key;unfold gX;rw [g] at ha⊢;rw [Int.toNat_natCast];cases hf:(atP L a.key).2 with
  |true=>
   have l:=h hf;rw [hf] at ha;rw [zp rfl];refine pF Tryz.func17 rfl (λst=> ?_)
   (repeat' first|exact Cn.any ⟨_,_,st,rfl,zwr _,aU (aU (aU (zsr _) hid) hid) hid,(by rw [show (L.toArray.setIfInBounds j a).toList=L.set j a from by simp];rfl),rfl⟩|((first|apply ho|apply ha))|(apply cP;rfl;(apply (agY L _ (by omega)));rintro _ st' (⟨id,rfl,hid,rfl⟩))|(apply cP;rfl;((apply (aB1 b ((L.toArray.setIfInBounds j a).toList) L q id L.length _ (aA _ _ _) (by simp) hq hl)));(rintro _ st' ⟨rfl,rfl⟩))|apply wZ;rfl|constructor|apply ixA pk;(iterate 5 rfl);rotate_left;rfl;(intro hw;(exact (show _=((j:Nat):Int) from by omega)));(intro hw;(omega));rfl;(exact Nat.zero_add _)|apply stA pk Ln.elem;rfl;rfl;rfl;(exact aA _ _ _);(omega);rfl|apply wY;rfl)
  |false=>
   rw [hf] at ha;rw [zn (by simp)];refine pF Tryz.func17 rfl (λst=> ?_)
   (repeat' first|exact Cn.any ⟨_,_,st,rfl,zwr _,aU (aU (aU (aU (zsr _) hid) hid) (iG hid hid2)) (iG hid hid2),rfl,rfl⟩|((first|apply ho|apply ha))|(apply cP;rfl;(apply (agY L _ (by omega)));rintro _ st' (⟨id,rfl,hid,rfl⟩))|(apply cP;rfl;(apply (aCN L [a] j id L.length _ (aA _ _ _) rfl hj (by simp) (by simp;omega)));rintro _ st' (⟨id2,rfl,hid2,rfl⟩))|(apply cP;rfl;((apply (aB1 b (dY L j [a]) L q id2 (dY L j [a]).length _ (aA _ _ _) rfl hq hl)));(rintro _ st' ⟨rfl,rfl⟩))|apply wZ;rfl|constructor|apply wY;rfl)
theorem aIp (k:Int):atP [] k=(0,false):=rfl
end Go.Proofs.YtfablfldonhkiaaGreatDoor
