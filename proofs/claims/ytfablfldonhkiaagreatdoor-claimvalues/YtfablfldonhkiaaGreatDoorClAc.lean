import Derived.Test.YtfablfldonhkiaaGreatDoorClAb
import Derived.Test.YtfablfldonhkiaaGreatDoorClAa
import Derived.Test.YtfablfldonhkiaaGreatDoorAbsSort
import Derived.Test.YtfablfldonhkiaaGreatDoorAbsE
set_option linter.unusedSimpArgs false
set_option linter.unusedVariables false
namespace Go.Proofs.YtfablfldonhkiaaGreatDoor
open Go Go.Abs
attribute [local irreducible] Ev PWp
set_option maxRecDepth 10000
set_option maxHeartbeats 4000000
def aH7 (s:Sc) (k:Nat):Bool:=(s.take k).any λt=>decide (t.name=s[k]!.name)
theorem aFo {α:Type} {f:α->Bool} {l:List α} {k:Nat} (hk:k<l.length) (hf:f l[k]=true):decide (max (cS f l) 0<k)=(l.take k).any f:=by
 unfold cS
 cases h:l.findIdx? f with
 |none=>rw [List.findIdx?_eq_none_iff.1 h _ (zgm hk)] at hf;cases hf
 |some j=>
  obtain ⟨hj,hfj,hn⟩:=List.findIdx?_eq_some_iff_getElem.1 h
  rw [Bool.eq_iff_iff,List.any_eq_true,zde]
  show max ((j:Nat):Int) 0<k↔_
  constructor
  ·intro q
   exact ⟨l[j],List.mem_take_iff_getElem.2 ⟨j,by omega,rfl⟩,hfj⟩
  ·rintro ⟨x,hx,hfx⟩
   obtain ⟨i,hi,rfl⟩:=List.mem_take_iff_getElem.1 hx
   rcases Nat.lt_or_ge i j with q|q
   ·exact absurd hfx (by simpa using hn i q)
   ·omega
def lk0 (s:Sc) (k:Nat):Int:=if aaP s[k]!.name=false then 1 else if aH7 s k=true then 5 else 0
def lk1 (t:Tb):Int:=if t.cols.length<1\/t.cols.length>16\/t.checks.length>16\/t.unique.length>16\/t.foreign.length>16\/t.sums.length>16 then 2 else 0
def lk2 (t:Tb):Int:=eB (amO t) t.cols.length
def lk3 (t:Tb):Int:=if mF t.cols[0]! =false\/t.cols[0]!.null=true then 6 else 0
def lk4 (t:Tb):Int:=eB (ajW t) t.unique.length
def lk5 (m:Nat) (t:Tb):Int:=eB (aqS m t) t.foreign.length
def lk6 (t:Tb):Int:=eB (alP t) t.sums.length
def lks (s:Sc) (k:Nat):List Int:=[lk0 s k,lk1 s[k]!,lk2 s[k]!,lk3 s[k]!,lk4 s[k]!,lk5 s.length s[k]!,lk6 s[k]!]
def aqZ (s:Sc) (k:Nat):Int:=orI (lks s k)
def cB (s:Sc):Int:=if s.length<1\/s.length>16 then 2 else eB (aqZ s) s.length
structure TbB (t:Tb):Prop where
 c:t.cols.length<200000000000000
 u:t.unique.length<200000000000000
 k:t.checks.length<200000000000000
 f:t.foreign.length<200000000000000
 s:t.sums.length<200000000000000
theorem aCt (s:Sc) (k:Nat) (hl:s.length<200000000000000) (hk:k<s.length):PF Tryz.prog 133 [.agg (scC s),(vi ((k:Nat)))] (vi (lk0 s k)):=by
 have hn:=aeY s[k].name
 have ht:=asE s s[k].name hl
 have hd:=aFo (f:=λt:Tb=>decide (t.name=s[k].name)) hk (decide_eq_true rfl)
 change decide (max (axV s s[k].name) 0<(k:Nat))=_ at hd
 have e:lk0 s k=if aaP s[k].name=false then 1 else if ((s.take k).any λt=>decide (t.name=s[k].name))=true then 5 else 0:=by unfold lk0 aH7;rw [getElem!_pos s k hk]
 rw [e,<-hd]
 generalize aaP s[k].name=N at*
 generalize axV s s[k].name=R at*
 refine pF Tryz.func133 rfl (λst=> ?_)
 (repeat' first|apply wZ;rfl|show Cn _;constructor|exact rfl|apply KR.mk;kernel_rfl|((first|apply hn|apply ht))|(congr 2;grind)|apply wY;rfl|apply wI;rfl|apply gE;omega|intro h)
theorem aDh (s:Sc) (k:Nat) (hk:k<s.length) (hB:TbB s[k]):PF Tryz.prog 136 [.agg (scC s),(vi ((k:Nat)))] (vi (lk1 s[k]!)):=by
 rw [getElem!_pos s k hk]
 obtain ⟨b1,b2,b3,b4,b5⟩:=hB
 unfold lk1
 refine pF Tryz.func136 rfl (λst=> ?_)
 (repeat' first|apply wZ;rfl|constructor|((first|rw [zp (by omega)];done|rw [zn (by omega)];done))|apply aJf;(iterate 6 rfl);rotate_left;rfl;rfl|apply wI;rfl|apply gE;omega|(intro h;simp at h))
theorem aBe (s:Sc) (k:Nat) (hk:k<s.length) (hB:TbB s[k]):PF Tryz.prog 137 [.agg (scC s),(vi ((k:Nat)))] (vi (lk2 s[k]!)):=by
 rw [getElem!_pos s k hk]
 have h:=agZ s[k] hB.c
 change PF _ _ _ (vi (lk2 s[k])) at h
 refine pF Tryz.func137 rfl (λst=> ?_)
 (repeat' first|apply wZ;rfl|constructor|(apply h)|apply wY;rfl|apply wI;rfl|apply gE;omega)
theorem aCO (s:Sc) (k:Nat) (hk:k<s.length) (hc:0<s[k].cols.length):PF Tryz.prog 139 [.agg (scC s),(vi ((k:Nat)))] (vi (lk3 s[k]!)):=by
 rw [getElem!_pos s k hk]
 unfold lk3
 rw [getElem!_pos s[k].cols 0 hc]
 have h:=dR s[k].cols[0]
 generalize mF s[k].cols[0]=N at*
 refine pF Tryz.func139 rfl (λst=> ?_)
 (repeat' first|apply wZ;rfl|constructor|(apply h)|(congr 2;grind)|apply wY;rfl|apply wI;rfl|apply gE;omega|intro h)
theorem aDA (s:Sc) (k:Nat) (hk:k<s.length) (hB:TbB s[k]):PF Tryz.prog 141 [.agg (scC s),(vi ((k:Nat)))] (vi (lk4 s[k]!)):=by
 rw [getElem!_pos s k hk]
 have h:=ahN s[k] hB.c hB.u
 change PF _ _ _ (vi (lk4 s[k])) at h
 refine pF Tryz.func141 rfl (λst=> ?_)
 (repeat' first|apply wZ;rfl|constructor|(apply h)|apply wY;rfl|apply wI;rfl|apply gE;omega)
theorem aDj (s:Sc) (k:Nat) (hk:k<s.length) (hB:TbB s[k]):PF Tryz.prog 143 [.agg (scC s),(vi ((k:Nat)))] (vi (lk5 s.length s[k]!)):=by
 rw [getElem!_pos s k hk]
 have h:=adJ s s[k] hB.c hB.f
 change PF _ _ _ (vi (lk5 s.length s[k])) at h
 refine pF Tryz.func143 rfl (λst=> ?_)
 (repeat' first|apply wZ;rfl|show Cn _;constructor|exact rfl|apply KR.mk;kernel_rfl|(apply h)|apply wY;rfl|apply wI;rfl|apply gE;omega)
theorem aA9 (s:Sc) (k:Nat) (hk:k<s.length) (hB:TbB s[k]):PF Tryz.prog 145 [.agg (scC s),(vi ((k:Nat)))] (vi (lk6 s[k]!)):=by
 rw [getElem!_pos s k hk]
 have h:=ayF s[k] hB.c hB.s
 change PF _ _ _ (vi (lk6 s[k])) at h
 refine pF Tryz.func145 rfl (λst=> ?_)
 (repeat' first|apply wZ;rfl|constructor|(apply h)|apply wY;rfl|apply wI;rfl|apply gE;omega)
def looksF :List FuncId:=[133,136,137,139,141,143,145]
theorem aoJ :PF Tryz.prog 85 [] (.seq (looksF.map λf=>[.fn f []])):=by
 refine pF Tryz.func85 rfl (λst=> ?_)
 (repeat' first|apply wZ;rfl|constructor)
theorem auT (s:Sc) (k:Nat):(lks s k).length=7:=rfl
theorem aAv (s:Sc) (k y:Nat) (hl:s.length<200000000000000) (hk:k<s.length) (hB:TbB s[k]) (hy:y<7) (hz:∀j (h:j<y),(lks s k)[j]'(by rw [auT];omega)=0):PF Tryz.prog (looksF[y]'hy) [.agg (scC s),(vi ((k:Nat)))] (vi ((lks s k)[y]'hy)):=by
 rcases (show y=0\/y=1\/y=2\/y=3\/y=4\/y=5\/y=6 by omega) with rfl|rfl|rfl|rfl|rfl|rfl|rfl
 ·exact aCt s k hl hk
 ·exact aDh s k hk hB
 ·exact aBe s k hk hB
 ·have h1:lk1 s[k]! =0:=hz 1 (by omega)
  rw [getElem!_pos s k hk] at h1
  have:0<s[k].cols.length:=by
   unfold lk1 at h1
   split at h1
   ·omega
   ·omega
  exact aCO s k hk this
 ·exact aDA s k hk hB
 ·exact aDj s k hk hB
 ·exact aA9 s k hk hB
theorem xI (s:Sc) (hl:s.length<200000000000000) (hB:∀t∈s,TbB t):PF Tryz.prog 50 [.agg (scC s)] (vi (cB s)):=by
 have hlk:=aoJ
 unfold cB
 by_cases h16:s.length<1\/s.length>16
 ·rw [zp h16]
  refine pF Tryz.func50 rfl (λst=> ?_)
  (repeat' first|(refine aeF (λ_ _ h=>h) ?_)|apply wZ;rfl|constructor|intro h;simp at h;omega|intro h)
 rw [zn h16]
 refine pF Tryz.func50 rfl (λst=> ?_)
 (repeat' first|(refine aeF (λ_ _ h=>h) ?_)|(refine azV ?_)|apply wZ;rfl|constructor|intro h;simp at h;omega|intro h)
 refine aC (X:={x:Nat//x<=s.length/\∀j<x,aqZ s j=0}) (λi=>(((((St.nil 39 st).var 1 24 ((scC s))).pv 3 ((vi (0)))).pv 19 ((vi (((s.map Tb.cells).length:Nat))))).pv 20 ((vi ((i.1:Nat)))))) (λi=>s.length-i.1) ⟨0,by omega,by omega⟩ ?_ (λi=> ?_)
 ·(repeat' first|constructor)
 obtain ⟨i,hi,hI⟩:=i
 dsimp only
 by_cases hend:s.length<=i
 ·rw [alH (f:=aqZ s) (n:=s.length) λj hj=>hI j (by omega)]
  (repeat' first|apply wZ;rfl|constructor|simp only [zql];omega|intro h)
 have hil:i<s.length:=by omega
 have hBi:=hB s[i] (zgm hil)
 (repeat' first|apply wZ;rfl|constructor|(apply hlk)|apply wY;rfl|simp only [zql];omega|intro h)
 refine aC (X:={x:Nat//x<=7/\∀j (h:j<x) (h7:j<7),(lks s i)[j]'h7=0}) (λy=>(((((((((St.nil 39 st).var 1 24 ((scC s))).pv 3 ((vi (0)))).pv 4 ((vi ((i:Nat))))).pv 19 ((vi (((s.map Tb.cells).length:Nat))))).pv 20 ((vi ((i:Nat))))).pv 23 (.seq (looksF.map λf=>[.fn f []]))).pv 24 ((vi ((7:Nat))))).pv 25 ((vi ((y.1:Nat)))))) (λy=>7-y.1) ⟨0,by omega,by omega⟩ ?_ (λy=> ?_)
 ·(repeat' first|constructor)
 obtain ⟨y,hy,hyI⟩:=y
 dsimp only
 by_cases hend2:7<=y
 ·have e:aqZ s i=0:=by
   unfold aqZ
   refine aAX λx hx=> ?_
   obtain ⟨j,hj,rfl⟩:=zgo hx
   exact hyI j (by rw [auT] at hj;omega) hj
  (repeat' first|(refine ⟨⟨i+1,by omega,λj hj=>by rcases zls.1 hj with q|q;exact hI j q;subst q;exact e⟩, ?_, ?_⟩)|apply wZ;rfl|show Cn _;constructor|exact rfl|omega|simp only [zql];omega|intro h)
 have hy7:y<7:=by omega
 have hc:=aAv s i y hl hil hBi hy7 λj hj=>hyI j hj (by omega)
 have hF:(lks s i)[y]'hy7≠0->eB (aqZ s) s.length=(lks s i)[y]'hy7:=λh=>by
  have e:aqZ s i=(lks s i)[y]'hy7:=aCo (l:=lks s i) hy7 h λj hj h2=>hyI j hj h2
  rw [alF hil (by rw [e];exact h) hI,e]
 have hS:(lks s i)[y]'hy7=0->∀j (h:j<y+1) (h7:j<7),(lks s i)[j]'h7=0:=λh j hj h7=>by
  rcases zls.1 hj with q|q
  ·exact hyI j q h7
  ·subst q;exact h
 generalize (lks s i)[y]'hy7=R at*
 have hrow:(looksF.map λf=>[PV.fn f []])[y]?=some [.fn (looksF[y]'hy7) []]:=auH (f:=λf=>[PV.fn f []]) (l:=looksF) hy7
 generalize (looksF[y]'hy7)=F at*
 (repeat' first|(refine ⟨⟨y+1,by omega,hS ‹_›⟩, ?_, ?_⟩)|apply wZ;rfl|show Cn _;constructor|exact rfl|apply cN pk;(iterate 6 rfl);rotate_left;rfl;(intro hw;rfl);(intro hw;apply (λ_=>hrow)<;>omega);(intro _;rfl);rfl|(apply hc)|rw [hF ‹_›]|show _=_;((simp only [show R=0 from by assumption]))|apply wY;rfl|omega|simp only [zql];omega|intro h|intro h)
theorem afG (zs:List Int) {st:aD} {id n:Nat} (hst:st id=some (.arr 3 (zs.map I1))) (hn:zs.length=n) (h62:n<4611686018427387904):
  PC Tryz.prog 59 [.vec id 1 0 n] st λ_ S=>S=upd st id (some (.arr 3 ((zs.mergeSort λx y=>decide (x<=y)).map I1))):=
 aCk (P:=Tryz.prog) aI8 (by kernel_rfl) (by kernel_rfl) hst hn h62
theorem dK {st:aD} {id id':Nat} {o:AObj} (h:upd st id (some o) id'=none):st id'=none:=by
 by_cases e:id'=id
 ·subst e;rw [aA] at h;cases h
 ·rwa [aB e] at h
theorem lY :Tryz.prog.bytesOf 3=8:=by kernel_rfl
theorem aoU (l:List Dt) (st:aD) (hl:l.length<1000000000000):PC Tryz.prog 196 [.seq (l.map Dt.cells)] st (LR 80 2 st (l.map Dt.cells)):=by
 refine pC Tryz.func196 rfl ?_
 (repeat' first|show Cn (.r _ _ _);refine .rr ?_;((first|exact .inr ⟨rfl,hb h,zsr _⟩|exact .inl ⟨id',by rw [zql],hid',aA _ _ _,cF hid'⟩));done|apply wZ;rfl|constructor|(apply ap0 pk (f:=Dt.cells) l 16;(iterate 10 rfl);exact λ_=>rfl;exact λ_=>rfl;exact avJ;(omega);(omega);rfl;intro id' hid')|(apply aCg pk;(iterate 6 rfl);intro b hb)|intro h)
theorem aeQ (l:List Dt) (st:aD) (hl:l.length<1000000000000):PC Tryz.prog 196 [.seq (l.map Dt.cells)] st λp S=>∃id,p= .vec id 2 0 l.length/\st id=none/\S=upd st id (some (.arr 80 (l.map Dt.cells))):=
 wO (abG (aoU l st hl)) λp st' ⟨id,h1,h2,h3⟩=>⟨p,st',zwr _,zsr _,id,by rw [h1,zql],h2,h3⟩
def cD (xs:List Dt) (i:Nat) (ys:List Dt):List Dt:=xs.take i++ys++xs.drop i
theorem alR (xs:List Dt) (i:Nat) (ys:List Dt):(cD xs i ys).map Dt.cells=(xs.map Dt.cells).take i++ys.map Dt.cells++(xs.map Dt.cells).drop i:=by
 unfold cD
 rw [List.map_append,List.map_append,List.map_take,List.map_drop]
theorem qP {xs:List Dt} {i:Nat} {ys:List Dt} (hi:i<=xs.length):(cD xs i ys).length=xs.length+ys.length:=by
 unfold cD
 simp only [zla,zlt,zld];omega
def aCB (st:aD) (id:Nat) (zs:List Dt) (r:PV) (S:aD):Prop:=∃id',r= .vec id' 2 0 zs.length/\upd st id none id'=none/\S=upd (upd st id none) id' (some (.arr 80 (zs.map Dt.cells)))
theorem akP (xs ys:List Dt) (i id n:Nat) (st:aD) (hst:st id=some (.arr 80 (xs.map Dt.cells))) (hn:xs.length=n) (hi:i<=n) (hy:ys≠[]) (hl:n+ys.length<1000000000000):PC Tryz.prog 195 [.vec id 2 0 n,(vi ((i:Nat))), .seq (ys.map Dt.cells)] st (aCB st id (cD xs i ys)):=by
 obtain ⟨m,hm⟩:∃m,ys.length=m:=⟨_,rfl⟩
 have hln:(ys.map Dt.cells).length=m:=(zql _).trans hm
 have hm0:0<m:=by rw [<-hm];exact List.length_pos_iff.2 hy
 rw [hm] at hl
 have hzl:(cD xs i ys).length=n+m:=by rw [qP (by omega),hn,hm]
 have hzm:=alR xs i ys
 have hB:=avJ
 refine pC Tryz.func195 rfl ?_
 by_cases hin:i=n
 ·subst hin
  have hz:cD xs i ys=xs++ys:=by unfold cD;rw [ztl (by omega),List.drop_of_length_le (by omega),List.append_nil]
  (repeat' first|show Cn (.r _ _ _);refine .rr ?_;(exact ⟨id',(by rw [hzl,hm]),jC hid',(by rw [hz];rfl)⟩);done|apply wZ;rfl|show Cn _;constructor|(apply apV pk (f:=Dt.cells) ys 16;(iterate 9 rfl);(assumption);(omega);exact λ_=>rfl;exact λ_=>rfl;exact hB;(omega);(omega);rfl;intro id' hid')|apply avY pk i i;(iterate 4 rfl);rotate_left;rfl;(intro _;exact aJ rfl rfl);(intro _;exact aW);(intro _;omega);(intro _;omega);rfl|omega|(intro h;simp at h))
 have hlt:i<n:=by omega
 have hxl:(xs.map Dt.cells).length=n:=(zql _).trans hn
 have hX1:∀r∈xs.map Dt.cells,r.all PV.one=true:=λr hr=>by obtain ⟨a,_,rfl⟩:=List.mem_map.1 hr;rfl
 have hX3:∀r∈xs.map Dt.cells,r.length=2:=λr hr=>by obtain ⟨a,_,rfl⟩:=List.mem_map.1 hr;rfl
 have hY1:∀r∈ys.map Dt.cells,r.all PV.one=true:=λr hr=>by obtain ⟨a,_,rfl⟩:=List.mem_map.1 hr;rfl
 have hY3:∀r∈ys.map Dt.cells,r.length=2:=λr hr=>by obtain ⟨a,_,rfl⟩:=List.mem_map.1 hr;rfl
 have hj:∀k,(xs.map Dt.cells++aV k 2).length=n+k:=λk=>by rw [zla,hxl];unfold aV;rw [List.length_replicate]
 generalize hXe:xs.map Dt.cells=X at*
 generalize hYe:ys.map Dt.cells=Y at*
 have hYn:Y≠[]:=λe=>by rw [e] at hln;simp at hln;omega
 obtain ⟨yc,ycs,yr,hYc⟩:∃c cs rest,Y=(c::cs)::rest:=by
  cases hY0:Y with
  |nil=>exact absurd hY0 hYn
  |cons a b=>
   cases ha:a with
   |nil=>have:=hY3 a (by rw [hY0];simp);rw [ha] at this;cases this
   |cons c cs=>exact ⟨c,cs,b,rfl⟩
 refine tF 0 m (id:=id) (rows:=X) rfl hst uU hxl (by omega) (by omega) (λk id1 hk hid1=> ?_) (λid1 hid1=> ?_)
 ·have hid1:st id1=none:=hid1
  have htk:(X++aV k 2).take i=X.take i:=List.take_append_of_le_length (by omega)
  have hgl:(X.take i++aV (n+m-i) 2).length=n+m:=by rw [zla,zlt];unfold aV;rw [List.length_replicate];omega
  have hg2:(aP (X.take i++aV (n+m-i) 2) i Y).length=n+m:=by rw [dF (by omega),hgl]
  have hgr:aP (aP (X.take i++aV (n+m-i) 2) i Y) (i+m) (X.drop i)=(cD xs i ys).map Dt.cells:=by rw [hzm];rw [<-hxl];exact tP hln (by omega)
  (repeat' first|(refine Cn.any ⟨_,_,upd (upd st id none) id2 (some (.arr 80 ((cD xs i ys).map Dt.cells))),rfl,zwr _,nO (by rw [hgr]) hid1,id2,(by rw [hzl];congr 1;omega),lP hid2,rfl⟩)|apply wD pk [8] [];kernel_rfl;rfl;rfl|apply wZ;rfl|show Cn _;constructor|(refine ajG pk (rows:=X++aV k 2) rfl rfl rfl rfl (.inr (aA _ _ _)) (by rw [hj];omega) rfl (λc hc1 hc2=> ?_);have hc3:=hc2 (aA _ _ _);rw [hj] at hc3)|apply yD pk (j:=i) (rows:=X++aV k 2);(iterate 4 rfl);rotate_left;rfl;rfl;exact .inr (aA _ _ _);(rw [hj];omega);exact aJ rfl rfl;(rw [hj];omega)|(refine apZ pk (kq:= .i64) (kn:= .i64) (i:=i) (m:=n+m-i) (sz:=2) (rows:=X++aV k 2) 16 rfl (congrArg (λz=>some (PV.val (.int .i64 z))) (show _=((n+m-i:Nat):Int) from by omega)) rfl (by kernel_rfl) rfl rfl rfl rfl (aA _ _ _) (by rw [hj];omega) (by rw [hj];omega) (by rw [hj];omega) hB (by omega) (by omega) (by omega) rfl (λid2 hid2=> ?_);rw [htk];have hne:id1≠id2:=(λe=>by rw [<-e] at hid2;have hid2:=(aA _ _ _).symm.trans hid2;cases hid2))|apply eC pk (i) (n+m-i);(iterate 4 rfl);rotate_left;rfl;(intro _;exact ⟨_,aJ rfl rfl,by omega⟩);(intro _;exact ⟨_,aW,by omega⟩);(intro _;omega);(intro _;omega);rfl|apply eC pk (i+m) (n-i);(iterate 4 rfl);rotate_left;rfl;(intro _;exact ⟨_,aJ rfl (show _=((i+m:Nat):Int) from by omega),by omega⟩);(intro _;exact ⟨_,aW,by omega⟩);(intro _;omega);(intro _;omega);rfl|apply eC pk (i) (n-i);(iterate 4 rfl);rotate_left;rfl;(intro _;exact ⟨_,aJ rfl rfl,by omega⟩);(intro _;exact ⟨_,aW,by omega⟩);(intro _;omega);(intro _;omega);rfl|(refine jO pk (e:=80) (sz:=2) (rows:=X.take i++aV (n+m-i) 2) (new:=Y) (m:=Y.length) (n:=Y.length) (len:=n+m-i) rfl rfl rfl rfl rfl (aA _ _ _) (by omega) (qN aQ rfl rfl rfl hY3 hY1) rfl hY3 (by omega) (by omega) rfl ?_)|(refine jO pk (e:=80) (sz:=2) (rows:=aP (X.take i++aV (n+m-i) 2) i Y) (new:=X.drop i) (m:=n-i) (n:=n-i) (len:=n-i) rfl rfl rfl rfl rfl (aA _ _ _) (by omega) (lO (k:=k) rfl (.inr ((aB ‹_›).trans ((aB ‹_›).trans (aA _ _ _)))) hxl (by omega) uU hX1 (by omega) (by omega)) (by rw [zld];omega) (λr hr=>hX3 r (List.mem_of_mem_drop hr)) (by omega) (by omega) rfl ?_)|omega|(intro h;simp at h)|intro h)
 ·have hid1:st id1=none:=hid1
  have hg2:(aP (X++aV m 2) (i+m) (X.drop i)).length=n+m:=by rw [dF (by rw [zld,hj];omega),hj]
  have hgr:aP (aP (X++aV m 2) (i+m) (X.drop i)) i Y=(cD xs i ys).map Dt.cells:=by rw [hzm];exact uI hln (by omega)
  (repeat' first|(refine Cn.any ⟨_,_,upd (upd st id none) id1 (some (.arr 80 ((cD xs i ys).map Dt.cells))),rfl,zwr _,nN (by rw [hgr]),id1,(by rw [hzl]),jC hid1,rfl⟩)|apply wD pk [8] [];kernel_rfl;rfl;rfl|apply wZ;rfl|show Cn _;constructor|apply eC pk (i) (n-i);(iterate 4 rfl);rotate_left;rfl;(intro _;exact ⟨_,aJ rfl rfl,by omega⟩);(intro _;exact ⟨_,aW,by omega⟩);(intro _;omega);(intro _;omega);rfl|apply eC pk (i) (n+m-i);(iterate 4 rfl);rotate_left;rfl;(intro _;exact ⟨_,aJ rfl rfl,by omega⟩);(intro _;exact ⟨_,aW,by omega⟩);(intro _;omega);(intro _;omega);rfl|apply eC pk (i+m) (n-i);(iterate 4 rfl);rotate_left;rfl;(intro _;exact ⟨_,aJ rfl (show _=((i+m:Nat):Int) from by omega),by omega⟩);(intro _;exact ⟨_,aW,by omega⟩);(intro _;omega);(intro _;omega);rfl|(refine ajG pk (rows:=X++aV m 2) rfl rfl rfl rfl (.inl (aA _ _ _)) (by rw [hj];omega) rfl (λc hc1 hc2=> ?_);rw [hj] at hc1)|apply yD pk (j:=n+m) (rows:=X++aV m 2);(iterate 4 rfl);rotate_left;rfl;rfl;exact .inl (aA _ _ _);(rw [hj];omega);exact aJ rfl (show _=((n+m:Nat):Int) from by omega);(rw [hj];omega)|(refine ovA pk (w:=true) (tS:=45) (tR:=4) (off:=i+m) (len:=n-i) (e:=80) (sz:=2) (rows:=X++aV m 2) rfl rfl Tryz.func255 (by kernel_rfl) (by kernel_rfl) (by kernel_rfl) (by kernel_rfl) rfl rfl rfl hYc rfl (.inl (aA _ _ _)) (by rw [hj];omega) uU (by omega) ?_ rfl rfl ?_;rotate_left)|(refine jO pk (e:=80) (sz:=2) (rows:=X++aV m 2) (new:=X.drop i) (m:=n+m-i) (n:=n-i) (len:=n-i) rfl rfl rfl rfl rfl (aA _ _ _) (by rw [hj];omega) (lO (k:=m) rfl (.inl (aA _ _ _)) hxl (by omega) uU hX1 (by omega) (by omega)) (by rw [zld];omega) (λr hr=>hX3 r (List.mem_of_mem_drop hr)) (by omega) (by omega) rfl ?_)|(refine jO pk (e:=80) (sz:=2) (rows:=aP (X++aV m 2) (i+m) (X.drop i)) (new:=Y) (m:=Y.length) (n:=Y.length) (len:=n+m-i) rfl rfl rfl rfl rfl (aA _ _ _) (by omega) (qN aQ rfl rfl rfl hY3 hY1) rfl hY3 (by omega) (by omega) rfl ?_)|omega|(intro h;simp at h)|intro h)
theorem aFY (xs ys:List Dt) (i id n:Nat) (z:Int) (st:aD) (hst:st id=some (.arr 80 (xs.map Dt.cells))) (hn:xs.length=n) (hz:z=((i:Nat):Int)) (hi:i<=n) (hy:ys≠[]) (hl:n+ys.length<1000000000000):PC Tryz.prog 195 [.vec id 2 0 n,(vi (z)), .seq (ys.map Dt.cells)] st (aCB st id (cD xs i ys)):=by
 subst hz;exact akP xs ys i id n st hst hn hi hy hl
theorem gQ {st:aD} {id id2:Nat} {o:Option AObj} (hid:st id=none) (h:upd (upd st id o) id none id2=none):st id2=none:=by
 by_cases e:id2=id
 ·rw [e];exact hid
 ·rwa [aB e,aB e] at h
theorem jV {st:aD} {id id2:Nat} {o b:Option AObj} (hid:st id=none):StSub (upd st id2 b) (upd (upd (upd st id o) id none) id2 b):=λj=>by
 by_cases e:j=id2
 ·subst e;right;rw [aA,aA]
 ·rw [aB e,aB e]
  by_cases e2:j=id
  ·subst e2;left;exact hid
  ·right;rw [aB e2,aB e2]
theorem ajI (x d:Dt):PF Tryz.prog 194 [.agg x.cells, .rp d.cells] (vb (bA x d)):=by
 refine pF Tryz.func194 rfl (λst=> ?_)
 (repeat' first|apply wZ;rfl|constructor|(apply (akL x d))|rw [<-atO]|apply wY;rfl)
def fP (l:List Dt) (d:Dt):Nat:=(l.findIdx? λx=>bA x d).getD l.length
theorem anH (l:List Dt) (d:Dt):fP l d<=l.length:=by
 unfold fP
 cases h:l.findIdx? λx=>bA x d with
 |none=>exact Nat.le_refl _
 |some k=>exact Nat.le_of_lt (List.findIdx?_eq_some_iff_getElem.1 h).1
def cZ (a:Ln) (d:Dt):Ln:=if d∈a.by_ then a else {a with by_:=cD a.by_ (fP a.by_ d) [d]}
theorem aD0 (a:Ln) (d:Dt) (st:aD) (hl:a.by_.length<100000000000):PC Tryz.prog 120 [.agg a.cells, .agg d.cells] st λr S=>(r= .agg a.cells/\S=st/\d∈a.by_)\/(d∉a.by_/\∃id,r= .agg [(vi (a.key)), .seq (a.cells_.map Cl.cells), .vec id 2 0 (cD a.by_ (fP a.by_ d) [d]).length]/\st id=none/\S=upd st id (some (.arr 80 ((cD a.by_ (fP a.by_ d) [d]).map Dt.cells)))):=by
 have hc:=acY a.by_ d (by omega)
 have hi:=ayE 194 [.rp d.cells] (λx=>bA x d) a.by_ (by omega) λx=>ajI x d
 have hmem:(a.by_.any λy=>decide (d=y))=decide (d∈a.by_):=by
  rw [Bool.eq_iff_iff,List.any_eq_true,zde]
  constructor
  ·rintro ⟨y,hy,e⟩;rw [of_decide_eq_true e];exact hy
  ·exact λh=>⟨d,h,decide_eq_true rfl⟩
 rw [hmem] at hc
 by_cases hd:d∈a.by_
 ·rw [decide_eq_true hd] at hc
  refine pC Tryz.func120 rfl ?_
  (repeat' first|(apply hc)|show Cn (.r _ _ _);refine .rr ?_;(exact .inl ⟨rfl,rfl,hd⟩);done|apply wZ;rfl|constructor|apply wY;rfl)
 rw [decide_eq_false hd] at hc
 obtain ⟨k,hk⟩:∃k,fP a.by_ d=k:=⟨_,rfl⟩
 have hkl:=anH a.by_ d
 rw [hk] at hkl⊢
 have hlen:(cD a.by_ k [d]).length=a.by_.length+1:=qP hkl
 rcases Nat.lt_or_ge k a.by_.length with hlt|hge
 ·have hii:cS (λx=>bA x d) a.by_=((k:Nat):Int):=by
   unfold cS
   unfold fP at hk
   cases h:a.by_.findIdx? λx=>bA x d with
   |none=>rw [h] at hk;simp at hk;omega
   |some j=>rw [h] at hk;simp at hk;simp [hk]
  rw [hii] at hi
  refine pC Tryz.func120 rfl ?_
  (repeat' first|exact Cn.any ⟨_,_,upd st id2 (some (.arr 80 ((cD a.by_ k [d]).map Dt.cells))),rfl,zwr _,jV hid, .inr ⟨hd,id2,rfl,gQ hid hid2,rfl⟩⟩|apply wDO pk [0,1,3,4,5,2,6,7,8] [2,6] [] [5,6] [];rfl;rfl;kernel_rfl;rfl;rfl|((first|apply hc|apply hi))|(apply cP;rfl;(apply (aeQ a.by_ _ (by omega)));rintro _ st' (⟨id,rfl,hid,rfl⟩))|(apply cP;rfl;(apply (akP a.by_ [d] k id a.by_.length _ (aA _ _ _) rfl (by omega) (by simp) (by simp;omega)));rintro _ st' (⟨id2,rfl,hid2,rfl⟩))|apply wZ;rfl|constructor|apply aY 3;rfl;rfl|apply wY;rfl)
 ·obtain rfl:k=a.by_.length:=by omega
  have hii:cS (λx=>bA x d) a.by_= -1:=by
   unfold cS
   unfold fP at hk
   cases h:a.by_.findIdx? λx=>bA x d with
   |none=>rfl
   |some j=>
    have:=(List.findIdx?_eq_some_iff_getElem.1 h).1
    rw [h] at hk;simp at hk;omega
  rw [hii] at hi
  refine pC Tryz.func120 rfl ?_
  (repeat' first|exact Cn.any ⟨_,_,upd st id2 (some (.arr 80 ((cD a.by_ a.by_.length [d]).map Dt.cells))),rfl,zwr _,jV hid, .inr ⟨hd,id2,rfl,gQ hid hid2,rfl⟩⟩|apply wDO pk [0,1,3,4,5,2,6,7,8] [2,6] [] [5,6] [];rfl;rfl;kernel_rfl;rfl;rfl|((first|apply hc|apply hi))|(apply cP;rfl;(apply (aeQ a.by_ _ (by omega)));rintro _ st' (⟨id,rfl,hid,rfl⟩))|(apply cP;rfl;(apply (aFY a.by_ [d] a.by_.length id a.by_.length _ _ (aA _ _ _) rfl (by simp) (by omega) (by simp) (by simp;omega)));rintro _ st' (⟨id2,rfl,hid2,rfl⟩))|apply wZ;rfl|constructor|apply aY 3;rfl;rfl|apply wY;rfl)
theorem aaW (a:Ln) (d:Dt) (hl:a.by_.length<100000000000):PF Tryz.prog 120 [.agg a.cells, .agg d.cells] (.agg (cZ a d).cells):=λst=>
 fS (sz:=2) (aD0 a d st hl) λp st' h=>by
  rcases h with ⟨rfl,rfl,hd⟩|⟨hd,id,rfl,h3,rfl⟩
  ·exact .inr ⟨_,_,zwr _,zsr _,by rw [cZ,zp hd],rfl⟩
  ·refine .inl ⟨id,80,(cD a.by_ (fP a.by_ d) [d]).map Dt.cells,_,st,aA _ _ _,uU, .agg (.cons .refl (.cons .refl (.cons ?_ .nil))),cF h3,by rw [cZ,zn hd];rfl,rfl⟩
   have e:((cD a.by_ (fP a.by_ d) [d]).map Dt.cells).length=(cD a.by_ (fP a.by_ d) [d]).length:=zql _
   rw [<-e];exact .all
theorem aoA (l:List Ln) (st:aD) (hl:l.length<1000000000000):PC Tryz.prog 40 [.seq (l.map Ln.cells)] st (LR 47 3 st (l.map Ln.cells)):=by
 refine pC Tryz.func40 rfl ?_
 (repeat' first|show Cn (.r _ _ _);refine .rr ?_;((first|exact .inr ⟨rfl,hb h,zsr _⟩|exact .inl ⟨id',by rw [zql],hid',aA _ _ _,cF hid'⟩));done|apply wZ;rfl|constructor|(apply ap0 pk (f:=Ln.cells) l 56;(iterate 10 rfl);exact λ_=>rfl;exact λ_=>rfl;exact agT;(omega);(omega);rfl;intro id' hid')|(apply aCg pk;(iterate 6 rfl);intro b hb)|intro h)
theorem aeR (l:List Ln) (st:aD) (hl:l.length<1000000000000):PC Tryz.prog 40 [.seq (l.map Ln.cells)] st λp S=>∃id,p= .vec id 3 0 l.length/\st id=none/\S=upd st id (some (.arr 47 (l.map Ln.cells))):=
 wO (abG (aoA l st hl)) λp st' ⟨id,h1,h2,h3⟩=>⟨p,st',zwr _,zsr _,id,by rw [h1,zql],h2,h3⟩
theorem anU (l:List Da) (st:aD) (hl:l.length<1000000000000):PC Tryz.prog 81 [.seq (l.map Da.cells)] st (LR 43 1 st (l.map Da.cells)):=by
 refine pC Tryz.func81 rfl ?_
 (repeat' first|show Cn (.r _ _ _);refine .rr ?_;((first|exact .inr ⟨rfl,hb h,zsr _⟩|exact .inl ⟨id',by rw [zql],hid',aA _ _ _,cF hid'⟩));done|apply wZ;rfl|constructor|(apply ap0 pk (f:=Da.cells) l 24;(iterate 10 rfl);exact λ_=>rfl;exact λ_=>rfl;exact agQ;(omega);(omega);rfl;intro id' hid')|(apply aCg pk;(iterate 6 rfl);intro b hb)|intro h)
theorem aAw (l:List Da) (st:aD) (hl:l.length<1000000000000):PC Tryz.prog 81 [.seq (l.map Da.cells)] st λp S=>∃id,p= .vec id 1 0 l.length/\st id=none/\S=upd st id (some (.arr 43 (l.map Da.cells))):=
 wO (abG (anU l st hl)) λp st' ⟨id,h1,h2,h3⟩=>⟨p,st',zwr _,zsr _,id,by rw [h1,zql],h2,h3⟩
def dV (xs:List Ln) (i:Nat) (ys:List Ln):List Ln:=xs.take i++ys++xs.drop i
theorem alJ (xs:List Ln) (i:Nat) (ys:List Ln):(dV xs i ys).map Ln.cells=(xs.map Ln.cells).take i++ys.map Ln.cells++(xs.map Ln.cells).drop i:=by
 unfold dV
 rw [List.map_append,List.map_append,List.map_take,List.map_drop]
theorem xS {xs:List Ln} {i:Nat} {ys:List Ln} (hi:i<=xs.length):(dV xs i ys).length=xs.length+ys.length:=by
 unfold dV
 simp only [zla,zlt,zld];omega
def aHV (st:aD) (id:Nat) (zs:List Ln) (r:PV) (S:aD):Prop:=∃id',r= .vec id' 3 0 zs.length/\upd st id none id'=none/\S=upd (upd st id none) id' (some (.arr 47 (zs.map Ln.cells)))
theorem aBI (xs ys:List Ln) (i id n:Nat) (st:aD) (hst:st id=some (.arr 47 (xs.map Ln.cells))) (hn:xs.length=n) (hi:i<=n) (hy:ys≠[]) (hl:n+ys.length<1000000000000):PC Tryz.prog 41 [.vec id 3 0 n,(vi ((i:Nat))), .seq (ys.map Ln.cells)] st (aHV st id (dV xs i ys)):=by
 obtain ⟨m,hm⟩:∃m,ys.length=m:=⟨_,rfl⟩
 have hln:(ys.map Ln.cells).length=m:=(zql _).trans hm
 have hm0:0<m:=by rw [<-hm];exact List.length_pos_iff.2 hy
 rw [hm] at hl
 have hzl:(dV xs i ys).length=n+m:=by rw [xS (by omega),hn,hm]
 have hzm:=alJ xs i ys
 have hB:=agT
 refine pC Tryz.func41 rfl ?_
 by_cases hin:i=n
 ·subst hin
  have hz:dV xs i ys=xs++ys:=by unfold dV;rw [ztl (by omega),List.drop_of_length_le (by omega),List.append_nil]
  (repeat' first|show Cn (.r _ _ _);refine .rr ?_;(exact ⟨id',(by rw [hzl,hm]),jC hid',(by rw [hz];rfl)⟩);done|apply wZ;rfl|show Cn _;constructor|(apply apV pk (f:=Ln.cells) ys 56;(iterate 9 rfl);(assumption);(omega);exact λ_=>rfl;exact λ_=>rfl;exact hB;(omega);(omega);rfl;intro id' hid')|apply avY pk i i;(iterate 4 rfl);rotate_left;rfl;(intro _;exact aJ rfl rfl);(intro _;exact aW);(intro _;omega);(intro _;omega);rfl|omega|(intro h;simp at h))
 have hlt:i<n:=by omega
 have hxl:(xs.map Ln.cells).length=n:=(zql _).trans hn
 have hX1:∀r∈xs.map Ln.cells,r.all PV.one=true:=λr hr=>by obtain ⟨a,_,rfl⟩:=List.mem_map.1 hr;rfl
 have hX3:∀r∈xs.map Ln.cells,r.length=3:=λr hr=>by obtain ⟨a,_,rfl⟩:=List.mem_map.1 hr;rfl
 have hY1:∀r∈ys.map Ln.cells,r.all PV.one=true:=λr hr=>by obtain ⟨a,_,rfl⟩:=List.mem_map.1 hr;rfl
 have hY3:∀r∈ys.map Ln.cells,r.length=3:=λr hr=>by obtain ⟨a,_,rfl⟩:=List.mem_map.1 hr;rfl
 have hj:∀k,(xs.map Ln.cells++aV k 3).length=n+k:=λk=>by rw [zla,hxl];unfold aV;rw [List.length_replicate]
 generalize hXe:xs.map Ln.cells=X at*
 generalize hYe:ys.map Ln.cells=Y at*
 have hYn:Y≠[]:=λe=>by rw [e] at hln;simp at hln;omega
 obtain ⟨yc,ycs,yr,hYc⟩:∃c cs rest,Y=(c::cs)::rest:=by
  cases hY0:Y with
  |nil=>exact absurd hY0 hYn
  |cons a b=>
   cases ha:a with
   |nil=>have:=hY3 a (by rw [hY0];simp);rw [ha] at this;cases this
   |cons c cs=>exact ⟨c,cs,b,rfl⟩
 refine tF 0 m (id:=id) (rows:=X) rfl hst qV hxl (by omega) (by omega) (λk id1 hk hid1=> ?_) (λid1 hid1=> ?_)
 ·have hid1:st id1=none:=hid1
  have htk:(X++aV k 3).take i=X.take i:=List.take_append_of_le_length (by omega)
  have hgl:(X.take i++aV (n+m-i) 3).length=n+m:=by rw [zla,zlt];unfold aV;rw [List.length_replicate];omega
  have hg2:(aP (X.take i++aV (n+m-i) 3) i Y).length=n+m:=by rw [dF (by omega),hgl]
  have hgr:aP (aP (X.take i++aV (n+m-i) 3) i Y) (i+m) (X.drop i)=(dV xs i ys).map Ln.cells:=by rw [hzm];rw [<-hxl];exact tP hln (by omega)
  (repeat' first|(refine Cn.any ⟨_,_,upd (upd st id none) id2 (some (.arr 47 ((dV xs i ys).map Ln.cells))),rfl,zwr _,nO (by rw [hgr]) hid1,id2,(by rw [hzl];congr 1;omega),lP hid2,rfl⟩)|apply wD pk [8] [];kernel_rfl;rfl;rfl|apply wZ;rfl|show Cn _;constructor|(refine ajG pk (rows:=X++aV k 3) rfl rfl rfl rfl (.inr (aA _ _ _)) (by rw [hj];omega) rfl (λc hc1 hc2=> ?_);have hc3:=hc2 (aA _ _ _);rw [hj] at hc3)|apply yD pk (j:=i) (rows:=X++aV k 3);(iterate 4 rfl);rotate_left;rfl;rfl;exact .inr (aA _ _ _);(rw [hj];omega);exact aJ rfl rfl;(rw [hj];omega)|(refine apZ pk (kq:= .i64) (kn:= .i64) (i:=i) (m:=n+m-i) (sz:=3) (rows:=X++aV k 3) 56 rfl (congrArg (λz=>some (PV.val (.int .i64 z))) (show _=((n+m-i:Nat):Int) from by omega)) rfl (by kernel_rfl) rfl rfl rfl rfl (aA _ _ _) (by rw [hj];omega) (by rw [hj];omega) (by rw [hj];omega) hB (by omega) (by omega) (by omega) rfl (λid2 hid2=> ?_);rw [htk];have hne:id1≠id2:=(λe=>by rw [<-e] at hid2;have hid2:=(aA _ _ _).symm.trans hid2;cases hid2))|apply eC pk (i) (n+m-i);(iterate 4 rfl);rotate_left;rfl;(intro _;exact ⟨_,aJ rfl rfl,by omega⟩);(intro _;exact ⟨_,aW,by omega⟩);(intro _;omega);(intro _;omega);rfl|apply eC pk (i+m) (n-i);(iterate 4 rfl);rotate_left;rfl;(intro _;exact ⟨_,aJ rfl (show _=((i+m:Nat):Int) from by omega),by omega⟩);(intro _;exact ⟨_,aW,by omega⟩);(intro _;omega);(intro _;omega);rfl|apply eC pk (i) (n-i);(iterate 4 rfl);rotate_left;rfl;(intro _;exact ⟨_,aJ rfl rfl,by omega⟩);(intro _;exact ⟨_,aW,by omega⟩);(intro _;omega);(intro _;omega);rfl|(refine jO pk (e:=47) (sz:=3) (rows:=X.take i++aV (n+m-i) 3) (new:=Y) (m:=Y.length) (n:=Y.length) (len:=n+m-i) rfl rfl rfl rfl rfl (aA _ _ _) (by omega) (qN aQ rfl rfl rfl hY3 hY1) rfl hY3 (by omega) (by omega) rfl ?_)|(refine jO pk (e:=47) (sz:=3) (rows:=aP (X.take i++aV (n+m-i) 3) i Y) (new:=X.drop i) (m:=n-i) (n:=n-i) (len:=n-i) rfl rfl rfl rfl rfl (aA _ _ _) (by omega) (lO (k:=k) rfl (.inr ((aB ‹_›).trans ((aB ‹_›).trans (aA _ _ _)))) hxl (by omega) qV hX1 (by omega) (by omega)) (by rw [zld];omega) (λr hr=>hX3 r (List.mem_of_mem_drop hr)) (by omega) (by omega) rfl ?_)|omega|(intro h;simp at h)|intro h)
 ·have hid1:st id1=none:=hid1
  have hg2:(aP (X++aV m 3) (i+m) (X.drop i)).length=n+m:=by rw [dF (by rw [zld,hj];omega),hj]
  have hgr:aP (aP (X++aV m 3) (i+m) (X.drop i)) i Y=(dV xs i ys).map Ln.cells:=by rw [hzm];exact uI hln (by omega)
  (repeat' first|(refine Cn.any ⟨_,_,upd (upd st id none) id1 (some (.arr 47 ((dV xs i ys).map Ln.cells))),rfl,zwr _,nN (by rw [hgr]),id1,(by rw [hzl]),jC hid1,rfl⟩)|apply wD pk [8] [];kernel_rfl;rfl;rfl|apply wZ;rfl|show Cn _;constructor|apply eC pk (i) (n-i);(iterate 4 rfl);rotate_left;rfl;(intro _;exact ⟨_,aJ rfl rfl,by omega⟩);(intro _;exact ⟨_,aW,by omega⟩);(intro _;omega);(intro _;omega);rfl|apply eC pk (i) (n+m-i);(iterate 4 rfl);rotate_left;rfl;(intro _;exact ⟨_,aJ rfl rfl,by omega⟩);(intro _;exact ⟨_,aW,by omega⟩);(intro _;omega);(intro _;omega);rfl|apply eC pk (i+m) (n-i);(iterate 4 rfl);rotate_left;rfl;(intro _;exact ⟨_,aJ rfl (show _=((i+m:Nat):Int) from by omega),by omega⟩);(intro _;exact ⟨_,aW,by omega⟩);(intro _;omega);(intro _;omega);rfl|(refine ajG pk (rows:=X++aV m 3) rfl rfl rfl rfl (.inl (aA _ _ _)) (by rw [hj];omega) rfl (λc hc1 hc2=> ?_);rw [hj] at hc1)|apply yD pk (j:=n+m) (rows:=X++aV m 3);(iterate 4 rfl);rotate_left;rfl;rfl;exact .inl (aA _ _ _);(rw [hj];omega);exact aJ rfl (show _=((n+m:Nat):Int) from by omega);(rw [hj];omega)|(refine ovA pk (w:=true) (tS:=41) (tR:=4) (off:=i+m) (len:=n-i) (e:=47) (sz:=3) (rows:=X++aV m 3) rfl rfl Tryz.func79 (by kernel_rfl) (by kernel_rfl) (by kernel_rfl) (by kernel_rfl) rfl rfl rfl hYc rfl (.inl (aA _ _ _)) (by rw [hj];omega) qV (by omega) ?_ rfl rfl ?_;rotate_left)|(refine jO pk (e:=47) (sz:=3) (rows:=X++aV m 3) (new:=X.drop i) (m:=n+m-i) (n:=n-i) (len:=n-i) rfl rfl rfl rfl rfl (aA _ _ _) (by rw [hj];omega) (lO (k:=m) rfl (.inl (aA _ _ _)) hxl (by omega) qV hX1 (by omega) (by omega)) (by rw [zld];omega) (λr hr=>hX3 r (List.mem_of_mem_drop hr)) (by omega) (by omega) rfl ?_)|(refine jO pk (e:=47) (sz:=3) (rows:=aP (X++aV m 3) (i+m) (X.drop i)) (new:=Y) (m:=Y.length) (n:=Y.length) (len:=n+m-i) rfl rfl rfl rfl rfl (aA _ _ _) (by omega) (qN aQ rfl rfl rfl hY3 hY1) rfl hY3 (by omega) (by omega) rfl ?_)|omega|(intro h;simp at h)|intro h)
abbrev Bs :=List Da
def bsC (b:Bs):List PV:=[.seq (b.map Da.cells)]
def okT (b:Bs) (k:Int):Bool:=decide (0<=k)&&decide (k<b.length)
def aF (b:Bs) (k:Int):List Ln:=if okT b k then (b[k.toNat]!).lines else []
theorem avE (b:Bs) (k:Int) (h:okT b k=false):PF Tryz.prog 33 [.agg (bsC b),(vi (k))] (.tup [.agg [.seq [], .seq [],(vi (0))],(vb (false))]):=by
 unfold okT at h
 simp only [Bool.and_eq_false_iff,decide_eq_false_iff_not] at h
 refine pF Tryz.func33 rfl (λst=> ?_)
 (repeat' first|show Cn (.e _ _ _ _);refine .any ?_;((refine ⟨_,_,_,rfl,zwf _,zsr _, ?_,rfl⟩;(rfl)))|apply wZ;rfl|constructor|intro h;simp at h;omega|intro h)
theorem abM (b:Bs) (k:Nat) (h:k<b.length):PF Tryz.prog 33 [.agg (bsC b),(vi ((k:Nat)))] (.tup [.agg [.seq (b[k].lines.map Ln.cells), .seq (b.map Da.cells),(vi ((k:Nat)))],(vb (true))]):=by
 refine pF Tryz.func33 rfl (λst=> ?_)
 (repeat' first|apply wZ;rfl|show Cn _;constructor|exact rfl|apply KR.mk;kernel_rfl|apply wI;rfl|apply gE;omega|simp only [zql];omega|intro h)
theorem aB6 (x:Ln) (k:Int):PF Tryz.prog 72 [.agg x.cells, .rp [(vi (k))]] (vb (decide (x.key=k))):=by
 refine pF Tryz.func72 rfl (λst=> ?_)
 (repeat' first|apply wZ;rfl|constructor)
theorem aEa (x:Ln) (k:Int):PF Tryz.prog 73 [.agg x.cells, .rp [(vi (k))]] (vb (decide (x.key>k))):=by
 refine pF Tryz.func73 rfl (λst=> ?_)
 (repeat' first|apply wZ;rfl|constructor)
def atP (l:List Ln) (k:Int):Int×Bool:=
 if cS (λx=>decide (x.key=k)) l>=0 then (cS (λx=>decide (x.key=k)) l,true)
 else if cS (λx=>decide (x.key>k)) l>=0 then (cS (λx=>decide (x.key>k)) l,false) else (l.length,false)
theorem ahV (l:List Ln) (k:Int) (hl:l.length<1000000000000):PF Tryz.prog 34 [.seq (l.map Ln.cells),(vi (k))] (.tup [(vi ((atP l k).1)),(vb ((atP l k).2))]):=by
 have h1:=aeO 72 [.rp [(vi (k))]] (λx=>decide (x.key=k)) l (by omega) λx=>aB6 x k
 have h2:=aeO 73 [.rp [(vi (k))]] (λx=>decide (x.key>k)) l (by omega) λx=>aEa x k
 unfold atP
 generalize cS (λx=>decide (x.key=k)) l=A at*
 generalize cS (λx=>decide (x.key>k)) l=B at*
 refine pF Tryz.func34 rfl (λst=> ?_)
 (repeat' first|apply wZ;rfl|constructor|((first|apply h1|apply h2))|((first|rw [zp (by omega)];done|rw [zn (by omega),zp (by omega)];done|rw [zn (by omega),zn (by omega)];simp))|apply aY 3;rfl;rfl|apply wY;rfl|intro h)
theorem ayD {st:aD} {id:Nat} {o:Option AObj} {a b:AObj} (h:b=a):StSub (upd st id (some a)) (upd (upd st id o) id (some b)):=λj=>by
 subst h
 right
 by_cases e:j=id
 ·subst e;rw [aA,aA]
 ·simp only [aB e]
theorem aEq (b:Bs) (ls l0:List Ln) (k:Nat) (st:aD) (hk:k<b.length) (hl:b.length<100000000000):PC Tryz.prog 42 [.agg [.seq (l0.map Ln.cells), .seq (b.map Da.cells),(vi ((k:Nat)))], .seq (ls.map Ln.cells)] st λr S=>∃id,r= .agg [.vec id 1 0 b.length]/\st id=none/\S=upd st id (some (.arr 43 ((b.set k ⟨ls⟩).map Da.cells))):=by
 refine pC Tryz.func42 rfl ?_
 (repeat' first|refine Cn.any ⟨_,_,upd st id (some (.arr 43 ((b.set k ⟨ls⟩).map Da.cells))),rfl,zwr _, ?_,id,rfl,hid,rfl⟩;exact ayD (by simp)|(apply cP;rfl;(apply (aAw b _ (by omega)));rintro _ st' (⟨id,rfl,hid,rfl⟩))|apply wZ;rfl|constructor|apply ixA pk;(iterate 5 rfl);rotate_left;rfl;(intro hw;(exact (show _=((k:Nat):Int) from by omega)));(intro hw;(omega));rfl;(exact Nat.zero_add _)|apply stA pk Da.elem;rfl;rfl;rfl;(exact aA _ _ _);(omega);rfl|apply wY;rfl)
theorem axZ (b:Bs) (ls l0:List Ln) (k:Nat) (hk:k<b.length) (hl:b.length<100000000000):PF Tryz.prog 42 [.agg [.seq (l0.map Ln.cells), .seq (b.map Da.cells),(vi ((k:Nat)))], .seq (ls.map Ln.cells)] (.agg (bsC (b.set k ⟨ls⟩))):=λst=>
 fS (sz:=1) (aEq b ls l0 k st hk hl) λp st' h=>by
  obtain ⟨id,rfl,h3,rfl⟩:=h
  refine .inl ⟨id,43,(b.set k ⟨ls⟩).map Da.cells,_,st,aA _ _ _,agX, .agg (.cons ?_ .nil),cF h3,rfl,rfl⟩
  have e:((b.set k ⟨ls⟩).map Da.cells).length=b.length:=by simp
  rw [<-e];exact .all
theorem aAU (b:Bs) (ls l0:List Ln) (k id n:Nat) (st:aD) (hst:st id=some (.arr 47 (ls.map Ln.cells))) (hn:ls.length=n) (hk:k<b.length) (hl:b.length<100000000000):PC Tryz.prog 42 [.agg [.seq (l0.map Ln.cells), .seq (b.map Da.cells),(vi ((k:Nat)))], .vec id 3 0 n] st λr S=>r= .agg (bsC (b.set k ⟨ls⟩))/\S=upd st id none:=
 PC.freeze2 hst qV ((zql _).trans hn) (axZ b ls l0 k hk hl _)
theorem aaI {α:Type} (f:α->Bool) (l:List α):(∃j:Nat,j<l.length/\cS f l=j)\/cS f l= -1:=by
 unfold cS
 cases h:l.findIdx? f with
 |none=>exact .inr rfl
 |some j=>exact .inl ⟨j,(List.findIdx?_eq_some_iff_getElem.1 h).1,rfl⟩
theorem ajB (l:List Ln) (k:Int):∃j:Nat,j<=l.length/\(atP l k).1=j/\((atP l k).2=true->j<l.length):=by
 unfold atP
 rcases aaI (λx:Ln=>decide (x.key=k)) l with ⟨j,hj,e⟩|e
 ·rw [zp (by omega)];exact ⟨j,by omega,e,λ_=>hj⟩
 ·rw [zn (by omega)]
  rcases aaI (λx:Ln=>decide (x.key>k)) l with ⟨j,hj,e⟩|e
  ·rw [zp (by omega)];exact ⟨j,by omega,e,λh=>by cases h⟩
  ·rw [zn (by omega)];exact ⟨l.length,Nat.le_refl _,rfl,λh=>by cases h⟩
def pJ (l:List Ln) (a:Ln):List Ln:=if (atP l a.key).2 then l.set (atP l a.key).1.toNat a else dV l (atP l a.key).1.toNat [a]
def tM (b:Bs) (k:Int) (a:Ln):Bs:=if okT b k then b.set k.toNat ⟨pJ (aF b k) a⟩ else b
theorem zT (b:Bs) (k:Int) (a:Ln) (hl:b.length<100000000000) (hll:∀d∈b,d.lines.length<100000000000):PF Tryz.prog 17 [.agg (bsC b),(vi (k)), .agg a.cells] (.agg (bsC (tM b k a))):=by
 unfold tM
 cases hok:okT b k with
 |false=>
  have ho:=avE b k hok
  rw [zn (by simp)]
  refine pF Tryz.func17 rfl (λst=> ?_)
  (repeat' first|apply wZ;rfl|constructor|(apply ho)|apply wY;rfl)
 |true=>
  obtain ⟨q,rfl,hq⟩:∃q:Nat,k=q/\q<b.length:=by
   unfold okT at hok
   simp only [zba,zde] at hok
   exact ⟨k.toNat,by omega,by omega⟩
  have ho:=abM b q hq
  have hlq:=hll b[q] (zgm hq)
  have hln:aF b q=b[q].lines:=by unfold aF;rw [zp hok];simp [hq]
  rw [zp rfl,hln,Int.toNat_natCast]
  generalize hLe:b[q].lines=L at*
  have ha:=ahV L a.key (by omega)
  obtain ⟨j,hj,e1,e2⟩:=ajB L a.key
  unfold pJ
  rw [e1] at ha⊢
  rw [Int.toNat_natCast]
  cases hf:(atP L a.key).2 with
  |true=>
   have hjl:=e2 hf
   rw [hf] at ha
   rw [zp rfl]
   refine pF Tryz.func17 rfl (λst=> ?_)
   (repeat' first|exact Cn.any ⟨_,_,st,rfl,zwr _,aR (aR (aR (zsr _) hid) hid) hid,(by rw [show (L.toArray.setIfInBounds j a).toList=L.set j a from by simp];rfl),rfl⟩|((first|apply ho|apply ha))|(apply cP;rfl;(apply (aeR L _ (by omega)));rintro _ st' (⟨id,rfl,hid,rfl⟩))|(apply cP;rfl;((apply (aAU b ((L.toArray.setIfInBounds j a).toList) L q id L.length _ (aA _ _ _) (by simp) hq hl)));(rintro _ st' ⟨rfl,rfl⟩))|apply wZ;rfl|constructor|apply ixA pk;(iterate 5 rfl);rotate_left;rfl;(intro hw;(exact (show _=((j:Nat):Int) from by omega)));(intro hw;(omega));rfl;(exact Nat.zero_add _)|apply stA pk Ln.elem;rfl;rfl;rfl;(exact aA _ _ _);(omega);rfl|apply wY;rfl)
  |false=>
   rw [hf] at ha
   rw [zn (by simp)]
   refine pF Tryz.func17 rfl (λst=> ?_)
   (repeat' first|exact Cn.any ⟨_,_,st,rfl,zwr _,aR (aR (aR (aR (zsr _) hid) hid) (gQ hid hid2)) (gQ hid hid2),rfl,rfl⟩|((first|apply ho|apply ha))|(apply cP;rfl;(apply (aeR L _ (by omega)));rintro _ st' (⟨id,rfl,hid,rfl⟩))|(apply cP;rfl;(apply (aBI L [a] j id L.length _ (aA _ _ _) rfl hj (by simp) (by simp;omega)));rintro _ st' (⟨id2,rfl,hid2,rfl⟩))|(apply cP;rfl;((apply (aAU b (dV L j [a]) L q id2 (dV L j [a]).length _ (aA _ _ _) rfl hq hl)));(rintro _ st' ⟨rfl,rfl⟩))|apply wZ;rfl|constructor|apply wY;rfl)
theorem aG8 (k:Int):atP [] k=(0,false):=rfl
end Go.Proofs.YtfablfldonhkiaaGreatDoor
