import Derived.Test.YtigmnfepdlbcpaaGreatDoorClAa
import Derived.Shelf.Strings.SlTrimAscii
import Derived.Shelf.Sort.Plain
import Derived.Shelf.SlSortCmp.NoneTotal
import Derived.Shelf.Slices.In.SortNone
set_option linter.all false
namespace Go.Proofs.YtigmnfepdlbcpaaGreatDoor
open Go Go.Abs Tryz
attribute [local irreducible] Ev PWp
set_option maxRecDepth 10000
set_option maxHeartbeats 4000000
variable{α:Type}{i id k n:Nat}{st:aD}{xs:List Dt}{b o:Option AObj}{a:AObj}
def anC(pre:List Co)(c:Co):Int:=if sD c.name=false\/c.k<0\/c.k>4 then 1 else if(pre.any λx=>decide (x.name=c.name))=true then 5 else if(c.type_≠1/\c.type_≠2)\/(¬(c.k=0\/c.k=1)/\¬(c.type_=2↔c.k=4))then 6 else if c.null=true/\¬(c.k=0\/c.k=1)then 1 else 0
def xW(t:Tb)(k:Nat):Int:=anC (t.o.take k) t.o[k]!
theorem aGA(x c:Co):qf 308 [.agg x.z, .rp c.z] (vb (decide (x.name=c.name))):=by
 refine pF func308 rfl λst=>?_
 repeat' first|apply wZ;rfl|constructor
theorem aK3(t:Tb)(k:Nat)(hl:t.o.length<200000000000000)(hk:k<t.o.length):qf 307 [vi (k:Nat), .rp t.z] (vi (xW t k)):=by
 have hn:=amR t.o[k].name;have hc:=aEl 308 [.rp t.o[k].z] (λx=>decide (x.name=t.o[k].name)) (t.o.take k) (by rw[zlt];omega) λp=>aGA p _;have e:xW t k=anC (t.o.take k) t.o[k]:=by unfold xW;rw[zep t.o k hk]
 rw[e];unfold anC;generalize sD t.o[k].name=N at*;generalize((t.o.take k).any λx=>decide (x.name=t.o[k].name))=A at*;have a:(((t.o.drop 0).take (k-0)).map Co.z)=(t.o.take k).map Co.z:=by simp
 refine pF func307 rfl λst=>?_
 repeat' first|apply wZ;rfl|constructor|(first|apply hn|apply hc)|show(_:PV)=_;(congr 2;grind);done|apply bO 4;rfl;rfl|apply slS pk (f:=Co.z) (xs:=t.o) 0 k;(iterate 5 rfl);rotate_left;rfl;intro _;rfl;intro _;exact bZ;intro _;exact bC rfl rfl;intro _;omega;intro _;omega;rfl;rw[a]|apply wY;rfl|apply wI;rfl|apply gE;omega|intro h;simp at h|intro h
theorem aoN(t:Tb)(hl:t.o.length<200000000000000):qf 220 [.agg t.z] (vi (eV (xW t) t.o.length)):=by
 have e:(t.o.map Co.z).length=t.o.length:=zql _;have h:=kP 307 [.rp t.z] (xW t) (t.o.map Co.z).length (by omega) λk hk _=>aK3 t k hl (by omega);rw[<-e];refine pF func220 rfl λst=>?_
 repeat' first|apply wZ;rfl|constructor|apply h|apply bO 1;rfl;rfl|apply wY;rfl
theorem vD{t:Tb}{i:Int}(h:iH t i=true):∃j:Nat,i=j/\∃h:j<t.o.length,fZ t i=t.o[j]:=by
 unfold iH at h;simp only[zba,zde]at h;refine⟨i.toNat,by omega,by omega,?_⟩;unfold fZ;rw[zep t.o i.toNat (by omega)]
def aiH(h:Bool)(p:Bool)(n:Bool):Int:=if h=false then 4 else if p=true then 1 else if n=false then 6 else 0
def xH(t:Tb)(k:Nat):Int:=aiH (iH t t.u[k]!) (decide (0<k)&&decide (t.u[k]!<=t.u[k-1]!)) (gY (fZ t t.u[k]!))
theorem aJa(t:Tb)(k:Nat)(hl:t.o.length<200000000000000)(hu:t.u.length<200000000000000)(hk:k<t.u.length):qf 310 [vi (k:Nat), .rp t.z] (vi (xH t k)):=by
 have hh:=yC t t.u[k];have e:xH t k=aiH (iH t t.u[k]) (decide (0<k)&&decide (t.u[k]<=t.u[k-1]'(by omega))) (gY (fZ t t.u[k])):=by
  unfold xH;rw[zep t.u k hk,zep t.u (k-1) (by omega)]
 rw[e];unfold aiH;rcases hc:iH t t.u[k]with _|_
 rw[hc]at hh;rotate_left;rw[hc]at hh;have⟨j,hj,d,a⟩:=vD hc;rw[a];have b:=eO t.o[j];generalize gY t.o[j]=N at*;rcases Nat.eq_zero_or_pos k with rfl|c
 rotate_left;obtain⟨m,rfl⟩:∃m,k=m+1:=⟨k-1,by omega⟩
 all_goals (refine pF func310 rfl λst=>?_;repeat'(first|apply iX;intro hw;exact(by first|rfl|exact hj|exact(show((((m+1:Nat):Int))-1=((m:Nat):Int))from by omega));apply gE;omega;rfl|apply iX;intro hw;exact(by first|rfl|exact hj|exact(show _=((0:Nat):Int)from(lZ hw).elim));apply gE;omega;rfl|apply wZ;rfl|omega|constructor|(first|apply hh|apply b)|show(_:PV)=_;(congr 2;grind);done|apply wY;rfl|apply wI;rfl|intro h;simp at h|intro h))
theorem apJ(t:Tb)(hl:t.o.length<200000000000000)(hu:t.u.length<200000000000000):qf 224 [.agg t.z] (vi (eV (xH t) t.u.length)):=by
 have e:(t.u.map I1).length=t.u.length:=zql _;have h:=kP 310 [.rp t.z] (xH t) (t.u.map I1).length (by omega) λk hk _=>aJa t k hl hu (by omega);rw[<-e];refine pF func224 rfl λst=>?_
 repeat' first|apply wZ;rfl|constructor|apply h|apply bO 1;rfl;rfl|apply wY;rfl
def ajO(h:Bool)(b:Bool)(p:Bool)(a:Bool)(n:Bool)(z:Bool):Int:=if h=false\/b=true then 4 else if p=true\/a=true then 1 else if n=false\/z=true then 6 else 0
def xM(m:Nat)(t:Tb)(k:Nat):Int:=ajO (iH t t.f[k]!.n) (decide (t.f[k]!.t<0)||decide (t.f[k]!.t>=m)) (decide (0<k)&&decide (t.f[k]!.n<=t.f[k-1]!.n)) (decide (t.f[k]!.act<0)||decide (t.f[k]!.act>2)) (gY (fZ t t.f[k]!.n)) (decide (t.f[k]!.act=2)&& !(fZ t t.f[k]!.n).null)
theorem aI3(s:Sc)(t:Tb)(k:Nat)(hl:t.o.length<200000000000000)(hu:t.f.length<200000000000000)(hk:k<t.f.length):qf 312 [vi (k:Nat), .rp t.z, .rp (scC s)] (vi (xM s.length t k)):=by
 have hh:=yC t t.f[k].n;have e:xM s.length t k=ajO (iH t t.f[k].n) (decide (t.f[k].t<0)||decide (t.f[k].t>=s.length)) (decide (0<k)&&decide (t.f[k].n<=(t.f[k-1]'(by omega)).n)) (decide (t.f[k].act<0)||decide (t.f[k].act>2)) (gY (fZ t t.f[k].n)) (decide (t.f[k].act=2)&& !(fZ t t.f[k].n).null):=by
  unfold xM;rw[zep t.f k hk,zep t.f (k-1) (by omega)]
 rw[e];unfold ajO;have el:(s.map Tb.z).length=s.length:=zql _;rw[<-el];rcases hc:iH t t.f[k].n with _|_
 rw[hc]at hh;rotate_left;rw[hc]at hh;have⟨j,hj,d,a⟩:=vD hc;rw[a];have b:=eO t.o[j];generalize gY t.o[j]=N at*;rcases Nat.eq_zero_or_pos k with rfl|c
 rotate_left;obtain⟨m,rfl⟩:∃m,k=m+1:=⟨k-1,by omega⟩
 all_goals (refine pF func312 rfl λst=>?_;repeat'(first|apply iX;intro hw;exact(by first|rfl|exact hj|exact(show((((m+1:Nat):Int))-1=((m:Nat):Int))from by omega));apply gE;omega;rfl|apply iX;intro hw;exact(by first|rfl|exact hj|exact(show _=((0:Nat):Int)from(lZ hw).elim));apply gE;omega;rfl|apply wZ;rfl|apply KR.mk;kernel_rfl|omega|constructor|(first|apply hh|apply b)|show(_:PV)=_;(congr 2;grind);done|apply wY;rfl|apply wI;rfl|intro h;simp at h))
theorem akN(s:Sc)(t:Tb)(hl:t.o.length<200000000000000)(hu:t.f.length<200000000000000):qf 226 [.agg (scC s), .agg t.z] (vi (eV (xM s.length t) t.f.length)):=by
 have e:(t.f.map Fr.z).length=t.f.length:=zql _;have h:=kP 312 [.rp t.z, .rp (scC s)] (xM s.length t) (t.f.map Fr.z).length (by omega) λk hk _=>aI3 s t k hl hu (by omega);rw[<-e];refine pF func226 rfl λst=>?_
 repeat' first|apply wZ;rfl|constructor|apply h|apply bO 3;rfl;rfl|apply bO 2;rfl;rfl|apply wY;rfl
def ajB(h:Bool)(a:Bool)(n:Bool)(p:Bool):Int:=if h=false then 4 else if a=true then 1 else if n=false then 6 else if p=true then 5 else 0
def xR(t:Tb)(k:Nat):Int:=ajB (iH t t.s[k]!.n&&iH t t.s[k]!.b) ((decide (t.s[k]!.n=t.s[k]!.b)||decide (t.s[k]!.max<0))||decide (t.s[k]!.max>1099511627776)) (gY (fZ t t.s[k]!.n)&&gY (fZ t t.s[k]!.b)) ((t.s.take k).any λy=>decide (y.n=t.s[k]!.n)&&decide (y.b=t.s[k]!.b))
theorem aFO(x c:Su):qf 314 [.agg x.z, .rp c.z] (vb (decide (x.n=c.n)&&decide (x.b=c.b))):=by
 refine pF func314 rfl λst=>?_
 repeat' first|apply wZ;rfl|constructor
theorem aI9(t:Tb)(k:Nat)(hl:t.o.length<200000000000000)(hu:t.s.length<200000000000000)(hk:k<t.s.length):qf 313 [vi (k:Nat), .rp t.z] (vi (xR t k)):=by
 have a:=yC t t.s[k].n;have b:=yC t t.s[k].b;have hc:=aDi 314 [.rp t.s[k].z] (λy=>decide (y.n=t.s[k].n)&&decide (y.b=t.s[k].b)) (t.s.take k) (by rw[zlt];omega) λp=>aFO p _;have e:xR t k=ajB (iH t t.s[k].n&&iH t t.s[k].b) ((decide (t.s[k].n=t.s[k].b)||decide (t.s[k].max<0))||decide (t.s[k].max>1099511627776)) (gY (fZ t t.s[k].n)&&gY (fZ t t.s[k].b)) ((t.s.take k).any λy=>decide (y.n=t.s[k].n)&&decide (y.b=t.s[k].b)):=by
  unfold xR;rw[zep t.s k hk]
 have m:(((t.s.drop 0).take (k-0)).map Su.z)=(t.s.take k).map Su.z:=by simp
 rw[e];unfold ajB;generalize((t.s.take k).any λy=>decide (y.n=t.s[k].n)&&decide (y.b=t.s[k].b))=A at*;rcases c1:iH t t.s[k].n with _|_
 rw[c1]at a;rotate_left;rcases c2:iH t t.s[k].b with _|_
 rw[c1]at a;rw[c2]at b;rotate_left;rw[c1]at a;rw[c2]at b;have⟨j,hj,o,d⟩:=vD c1;have⟨i,hi,n,c⟩:=vD c2;rw[d,c];have g:=eO t.o[j];have l:=eO t.o[i];generalize gY t.o[j]=N at*;generalize gY t.o[i]=M at*
 all_goals (refine pF func313 rfl λst=>?_;repeat'(first|apply iX;intro hw;exact(by first|rfl|exact hj|exact hi);apply gE;omega;rfl|apply wZ;rfl|constructor|(first|apply a|apply b|apply g|apply l|apply hc)|show(_:PV)=_;(congr 2;grind);done|apply bO 4;rfl;rfl|apply slS pk (f:=Su.z) (xs:=t.s) 0 k;(iterate 5 rfl);rotate_left;rfl;intro _;rfl;intro _;exact bZ;intro _;exact bC rfl rfl;intro _;omega;intro _;omega;rfl;rw[m]|apply wY;rfl|apply wI;rfl|intro h;simp at h|intro h))
theorem aDv(t:Tb)(hl:t.o.length<200000000000000)(hu:t.s.length<200000000000000):qf 228 [.agg t.z] (vi (eV (xR t) t.s.length)):=by
 have e:(t.s.map Su.z).length=t.s.length:=zql _;have h:=kP 313 [.rp t.z] (xR t) (t.s.map Su.z).length (by omega) λk hk _=>aI9 t k hl hu (by omega);rw[<-e];refine pF func228 rfl λst=>?_
 repeat' first|apply wZ;rfl|constructor|apply h|apply bO 1;rfl;rfl|apply wY;rfl
theorem aEv(t:Tb)(n:ByteArray):qf 305 [.agg t.z, .rp [vs n]] (vb (decide (t.name=n))):=by
 refine pF func305 rfl λst=>?_
 repeat' first|apply wZ;rfl|constructor
def aDk(s:Sc)(n:ByteArray):Int:=dJ (λt:Tb=>decide (t.name=n)) s
theorem aAO(s:Sc)(n:ByteArray)(hl:s.length<200000000000000):qf 217 [.agg (scC s),vs n] (.tup [vi (max (aDk s n) 0),vb (decide (aDk s n>=0))]):=by
 have h:=aDM 305 [.rp [vs n]] (λt=>decide (t.name=n)) s (by omega) λp=>aEv p n;change PF _ _ _ (vi (aDk s n))at h;generalize aDk s n=R at*;refine pF func217 rfl λst=>?_
 repeat' first|apply wZ;rfl|constructor|apply h|apply bO 3;rfl;rfl|apply wY;rfl
def ayP(s:Sc)(k:Nat):Bool:=(s.take k).any λt=>decide (t.name=s[k]!.name)
theorem aJX{f:α->Bool}{l:List α}(hk:k<l.length)(hf:f l[k]=true):decide (max (dJ f l) 0<k)=(l.take k).any f:=by
 unfold dJ;cases h:l.findIdx? f with
 |none=>grind
 |some j=>
  have⟨hj,a,hn⟩:=zfi.1 h;rw[zbi,zay,zde];show max ((j):Int) 0<k↔_;constructor
  ·intro q
   exact⟨l[j],List.mem_take_iff_getElem.2 ⟨j,by omega,rfl⟩,a⟩
  ·rintro⟨x,hx,b⟩
   obtain⟨i,hi,rfl⟩:=List.mem_take_iff_getElem.1 hx
   grind
def lk0(s:Sc)(k:Nat):Int:=if sD s[k]!.name=false then 1 else if ayP s k=true then 5 else 0
def lk1(t:Tb):Int:=if t.o.length<1\/t.o.length>16\/t.h.length>16\/t.u.length>16\/t.f.length>16\/t.s.length>16 then 2 else 0
def lk2(t:Tb):Int:=eV (xW t) t.o.length
def lk3(t:Tb):Int:=if gY t.o[0]! =false\/t.o[0]!.null=true then 6 else 0
def lk4(t:Tb):Int:=eV (xH t) t.u.length
def lk5(m:Nat)(t:Tb):Int:=eV (xM m t) t.f.length
def lk6(t:Tb):Int:=eV (xR t) t.s.length
def lks(s:Sc)(k:Nat):List Int:=[lk0 s k,lk1 s[k]!,lk2 s[k]!,lk3 s[k]!,lk4 s[k]!,lk5 s.length s[k]!,lk6 s[k]!]
def vW(s:Sc)(k:Nat):Int:=orI (lks s k)
def bY(s:Sc):Int:=if s.length<1\/s.length>16 then 2 else eV (vW s) s.length
structure TbB (t:Tb):Prop where
 c:t.o.length<200000000000000
 u:t.u.length<200000000000000
 k:t.h.length<200000000000000
 f:t.f.length<200000000000000
 s:t.s.length<200000000000000
theorem aGP(s:Sc)(k:Nat)(hl:s.length<200000000000000)(hk:k<s.length):qf 215 [.agg (scC s),vi (k:Nat)] (vi (lk0 s k)):=by
 have hn:=amR s[k].name;have ht:=aAO s s[k].name hl;have hd:=aJX (f:=λt:Tb=>decide (t.name=s[k].name)) hk (zdt rfl);change decide (max (aDk s s[k].name) 0<(k:Nat))=_ at hd;have e:lk0 s k=if sD s[k].name=false then 1 else if((s.take k).any λt=>decide (t.name=s[k].name))=true then 5 else 0:=by unfold lk0 ayP;rw[zep s k hk]
 rw[e,<-hd];generalize sD s[k].name=N at*;generalize aDk s s[k].name=R at*;refine pF func215 rfl λst=>?_
 repeat' first|apply wZ;rfl|apply KR.mk;kernel_rfl|constructor|(first|apply hn|apply ht)|show(_:PV)=_;(congr 2;grind);done|apply wY;rfl|apply wI;rfl|apply gE;omega|intro h;simp at h|intro h
theorem aHA(s:Sc)(k:Nat)(hk:k<s.length)(a:TbB s[k]):qf 218 [.agg (scC s),vi (k:Nat)] (vi (lk1 s[k]!)):=by
 rw[zep s k hk];have⟨b1,b2,b,c,d⟩:=a;unfold lk1;refine pF func218 rfl λst=>?_
 repeat' first|apply wZ;rfl|constructor|show(_:PV)=_;(first|rw[zp (by omega)];done|rw[zn (by omega)];done);done|apply aOE;(iterate 6 rfl);rotate_left;rfl;rfl|apply wI;rfl|apply gE;omega|intro h;simp at h
theorem aFC(s:Sc)(k:Nat)(hk:k<s.length)(a:TbB s[k]):qf 219 [.agg (scC s),vi (k:Nat)] (vi (lk2 s[k]!)):=by
 rw[zep s k hk];have h:=aoN s[k] a.c;change PF _ _ _ (vi (lk2 s[k]))at h;refine pF func219 rfl λst=>?_
 repeat' first|apply wZ;rfl|constructor|apply h|apply wY;rfl|apply wI;rfl|apply gE;omega
theorem aG6(s:Sc)(k:Nat)(hk:k<s.length)(hc:0<s[k].o.length):qf 221 [.agg (scC s),vi (k:Nat)] (vi (lk3 s[k]!)):=by
 rw[zep s k hk];unfold lk3;rw[zep s[k].o 0 hc];have h:=eO s[k].o[0];generalize gY s[k].o[0]=N at*;refine pF func221 rfl λst=>?_
 repeat' first|apply wZ;rfl|constructor|apply h|show(_:PV)=_;(congr 2;grind);done|apply wY;rfl|apply wI;rfl|apply gE;omega|intro h;simp at h
theorem aHW(s:Sc)(k:Nat)(hk:k<s.length)(a:TbB s[k]):qf 223 [.agg (scC s),vi (k:Nat)] (vi (lk4 s[k]!)):=by
 rw[zep s k hk];have h:=apJ s[k] a.c a.u;change PF _ _ _ (vi (lk4 s[k]))at h;refine pF func223 rfl λst=>?_
 repeat' first|apply wZ;rfl|constructor|apply h|apply wY;rfl|apply wI;rfl|apply gE;omega
theorem aHD(s:Sc)(k:Nat)(hk:k<s.length)(a:TbB s[k]):qf 225 [.agg (scC s),vi (k:Nat)] (vi (lk5 s.length s[k]!)):=by
 rw[zep s k hk];have h:=akN s s[k] a.c a.f;change PF _ _ _ (vi (lk5 s.length s[k]))at h;refine pF func225 rfl λst=>?_
 repeat' first|apply wZ;rfl|apply KR.mk;kernel_rfl|constructor|apply h|apply wY;rfl|apply wI;rfl|apply gE;omega
theorem aFy(s:Sc)(k:Nat)(hk:k<s.length)(a:TbB s[k]):qf 227 [.agg (scC s),vi (k:Nat)] (vi (lk6 s[k]!)):=by
 rw[zep s k hk];have h:=aDv s[k] a.c a.s;change PF _ _ _ (vi (lk6 s[k]))at h;refine pF func227 rfl λst=>?_
 repeat' first|apply wZ;rfl|constructor|apply h|apply wY;rfl|apply wI;rfl|apply gE;omega
def looksF :List FuncId:=[215,218,219,221,223,225,227]
theorem ayN :qf 137 [] (.seq (looksF.map λf=>[.fn f []])):=by
 refine pF func137 rfl λst=>?_
 repeat' first|apply wZ;rfl|constructor
theorem aBY(s:Sc)(k:Nat):(lks s k).length=7:=rfl
theorem aET(s:Sc)(k y:Nat)(hl:s.length<200000000000000)(hk:k<s.length)(a:TbB s[k])(hy:y<7)(hz:∀j (h:j<y),(lks s k)[j]'(by rw[aBY];omega)=0):qf (looksF[y]'hy) [.agg (scC s),vi (k:Nat)] (vi ((lks s k)[y]'hy)):=by
 rcases(show y=0\/y=1\/y=2\/y=3\/y=4\/y=5\/y=6 by omega)with rfl|rfl|rfl|rfl|rfl|rfl|rfl
 ·exact aGP s k hl hk
 ·exact aHA s k hk a
 ·exact aFC s k hk a
 ·have b:lk1 s[k]! =0:=hz 1 (by omega)
  rw[zep s k hk]at b;have:0<s[k].o.length:=by
   unfold lk1 at b
   grind
  exact aG6 s k hk this
 ·exact aHW s k hk a
 ·exact aHD s k hk a
 ·exact aFy s k hk a
theorem acL(s:Sc)(hl:s.length<200000000000000)(w:∀t∈s,TbB t):qf 72 [.agg (scC s)] (vi (bY s)):=by
 have r:=ayN;unfold bY;by_cases d:s.length<1\/s.length>16;rw[zp d];refine pF func72 rfl λst=>?_;rotate_left;rw[zn d];refine pF func72 rfl λst=>?_
 repeat' first|refine aDn (λ_ _ h=>h) ?_|refine aEn ?_|apply wZ;rfl|constructor|intro h;simp at h;omega|intro h;simp at h
 refine aC (X:={x:Nat//x<=s.length/\∀j<x,vW s j=0}) (λi=>(((((St.nil 39 st).var 1 24 (scC s)).pv 3 (vi 0)).pv 19 (vi ((s.map Tb.z).length:Nat))).pv 20 (vi (i.1:Nat)))) (λi=>s.length-i.1) ⟨0,by omega,by omega⟩ ?_ λi=>?_;rotate_left;have⟨i,hi,o⟩:=i;dsimp only;by_cases u:s.length<=i;rw[nO (f:=vW s) (n:=s.length) λj hj=>o j (by omega)];rotate_left;have c:i<s.length:=by omega
 have m:=w s[i] (zgm c)
 repeat' first|apply wZ;rfl|constructor|apply r|apply wY;rfl|simp<;>omega|intro h;simp at h
 refine aC (X:={x:Nat//x<=7/\∀j (h:j<x) (g:j<7),(lks s i)[j]'g=0}) (λy=>(((((((((St.nil 39 st).var 1 24 (scC s)).pv 3 (vi 0)).pv 4 (vi (i:Nat))).pv 19 (vi ((s.map Tb.z).length:Nat))).pv 20 (vi (i:Nat))).pv 23 (.seq (looksF.map λf=>[.fn f []]))).pv 24 (vi (7:Nat))).pv 25 (vi (y.1:Nat)))) (λy=>7-y.1) ⟨0,by omega,by omega⟩ ?_ λy=>?_;rotate_left;have⟨y,hy,b⟩:=y;dsimp only;by_cases p:7<=y;have e:vW s i=0:=by
  unfold vW;refine aFp λx hx=>?_;obtain⟨j,hj,rfl⟩:=zgo hx;exact b j (by rw[aBY]at hj;omega) hj
 rotate_left;have a:y<7:=by omega
 have hc:=aET s i y hl c m a λj hj=>b j hj (by omega);have z:(lks s i)[y]'a≠0->eV (vW s) s.length=(lks s i)[y]'a:=λh=>by
  have e:vW s i=(lks s i)[y]'a:=aGJ (l:=lks s i) a h λj hj v=>b j hj v
  rw[nM c (by rw[e];exact h) o,e]
 have A:(lks s i)[y]'a=0->∀j (h:j<y+1) (g:j<7),(lks s i)[j]'g=0:=λh j hj g=>by
  rcases zls.1 hj with q|q
  ·exact b j q g
  ·subst q;exact h
 generalize(lks s i)[y]'a=R at*;have k:(looksF.map λf=>[PV.fn f []])[y]?=some [.fn (looksF[y]'a) []]:=aBG (f:=λf=>[PV.fn f []]) (l:=looksF) a;generalize(looksF[y]'a)=F at*
 all_goals (repeat' first|refine⟨⟨y+1,by omega,A ‹_›⟩,?_,?_⟩|refine⟨⟨i+1,by omega,λj hj=>by rcases zls.1 hj with q|q;exact o j q;subst q;exact e⟩,?_,?_⟩|apply wZ;rfl|omega|constructor|apply cR pk;(iterate 6 rfl);rotate_left;rfl;intro hw;rfl;(intro hw;apply(λ_=>k)<;>omega);intro _;rfl;rfl|apply hc|show(_:PV)=_;rw[z ‹_›];done|show _=_;simp only[show R=0 from by assumption]|apply wY;rfl|simp<;>omega|intro h;simp at h|intro h)
theorem amX(zs:List Int)(b:st id=some (.arr 3 (zs.map I1)))(hn:zs.length=n)(a:n<4611686018427387904):
  qc 35 [.vec id 1 0 n] st λ_ S=>S=upd st id (some (.arr 3 ((zs.mergeSort λx y=>decide (x<=y)).map I1))):=
 aGG aOv rfl rfl b hn a
theorem aI{a:Nat}{o:AObj}(h:upd st id (some o) a=none):st a=none:=by
 by_cases e:a=id
 ·subst e;rw[aA]at h;cases h
 ·rwa[aB e]at h
theorem mJ :Tryz.prog.bytesOf 3=8:=rfl
theorem ayZ(l:List Dt)(st:aD)(hl:l.length<1000000000000):qc 211 [.seq (l.map Dt.z)] st (LR 51 2 st (l.map Dt.z)):=by
 refine pC func211 rfl ?_
 repeat' first|refine Cn.rr ?_;(first|exact .inr ⟨rfl,hb h,zsr _⟩|exact .inl ⟨c,by rw[zql],a,aA _ _ _,bN a⟩);done|apply wZ;rfl|constructor|apply ap0 pk (f:=Dt.z) l 16;(iterate 10 rfl);exactλ_=>rfl;exactλ_=>rfl;exact zN;omega;omega;rfl;intro c a|apply aGC pk;(iterate 6 rfl);intro b hb|intro h
theorem aDG(l:List Dt)(st:aD)(hl:l.length<1000000000000):qc 211 [.seq (l.map Dt.z)] st λp S=>∃id,p= .vec id 2 0 l.length/\st id=none/\S=upd st id (some (.arr 51 (l.map Dt.z))):=
 abQ (ahK (ayZ l st hl)) λp st' ⟨id,a,b,c⟩=>⟨p,st',zwr _,zsr _,id,by rw[a,zql],b,c⟩
def cJ(xs:List Dt)(i:Nat)(a:List Dt):List Dt:=xs.take i++a++xs.drop i
theorem avN(xs:List Dt)(i:Nat)(a:List Dt):(cJ xs i a).map Dt.z=(xs.map Dt.z).take i++a.map Dt.z++(xs.map Dt.z).drop i:=by
 unfold cJ;simp
theorem oT{a:List Dt}(hi:i<=xs.length):(cJ xs i a).length=xs.length+a.length:=by
 unfold cJ
 grind
def aGW(st:aD)(id:Nat)(zs:List Dt)(r:PV)(S:aD):Prop:=∃a,r= .vec a 2 0 zs.length/\upd st id none a=none/\S=upd (upd st id none) a (some (.arr 51 (zs.map Dt.z)))
theorem auI(xs g:List Dt)(i id n:Nat)(st:aD)(N:st id=some (.arr 51 (xs.map Dt.z)))(hn:xs.length=n)(hi:i<=n)(hy:g≠[])(hl:n+g.length<1000000000000):qc 210 [.vec id 2 0 n,vi (i:Nat), .seq (g.map Dt.z)] st (aGW st id (cJ xs i g)):=by
 obtain⟨m,hm⟩:∃m,g.length=m:=⟨_,rfl⟩;have t:(g.map Dt.z).length=m:=(zql _).trans hm;have U:0<m:=by rw[<-hm];exact List.length_pos_iff.2 hy
 rw[hm]at hl;have v:(cJ xs i g).length=n+m:=by rw[oT (by omega),hn,hm]
 have F:=avN xs i g;have Q:=zN;refine pC func210 rfl ?_;by_cases M:i=n;subst M;have hz:cJ xs i g=xs++g:=by unfold cJ;rw[ztl (by omega),List.drop_of_length_le (by omega),List.append_nil]
 rotate_left;have T:i<n:=by omega
 have s:(xs.map Dt.z).length=n:=(zql _).trans hn;have x:∀r∈xs.map Dt.z,r.all PV.one=true:=λr q=>by obtain⟨a,_,rfl⟩:=zmq.1 q;rfl
 have y:∀r∈xs.map Dt.z,r.length=2:=λr q=>by obtain⟨a,_,rfl⟩:=zmq.1 q;rfl
 have B:∀r∈g.map Dt.z,r.all PV.one=true:=λr q=>by obtain⟨a,_,rfl⟩:=zmq.1 q;rfl
 have p:∀r∈g.map Dt.z,r.length=2:=λr q=>by obtain⟨a,_,rfl⟩:=zmq.1 q;rfl
 have hj:∀k,(xs.map Dt.z++aX k 2).length=n+k:=λk=>by rw[zla,s];unfold aX;rw[List.length_replicate]
 generalize R:xs.map Dt.z=X at*;generalize S:g.map Dt.z=Y at*;have I:Y≠[]:=λe=>by rw[e]at t;simp at t;omega
 obtain⟨Z,W,yr,H⟩:∃c cs G,Y=(c::cs)::G:=by
  cases A:Y with
  |nil=>exact absurd A I
  |cons a b=>
   cases ha:a with
   |nil=>have:=p a (by rw[A];simp);rw[ha]at this;cases this
   |cons c cs=>exact⟨c,cs,b,rfl⟩
 refine yF 0 m (id:=id) (rows:=X) rfl N vP s (by omega) (by omega) (λk o hk d=>?_) λo d=>?_;have d:st o=none:=d;have O:(X++aX k 2).take i=X.take i:=List.take_append_of_le_length (by omega);have L:(X.take i++aX (n+m-i) 2).length=n+m:=by rw[zla,zlt];unfold aX;rw[List.length_replicate];omega
 have K:(aU (X.take i++aX (n+m-i) 2) i Y).length=n+m:=by rw[dX (by omega),L]
 have u:aU (aU (X.take i++aX (n+m-i) 2) i Y) (i+m) (X.drop i)=(cJ xs i g).map Dt.z:=by rw[F];rw[<-s];exact yT t (by omega)
 rotate_left;have d:st o=none:=d;have K:(aU (X++aX m 2) (i+m) (X.drop i)).length=n+m:=by rw[dX (by rw[zld,hj];omega),hj]
 have u:aU (aU (X++aX m 2) (i+m) (X.drop i)) i Y=(cJ xs i g).map Dt.z:=by rw[F];exact zQ t (by omega)
 all_goals (repeat' first|refine Cn.any ⟨_,_,upd (upd st id none) o (some (.arr 51 ((cJ xs i g).map Dt.z))),rfl,zwr _,qX (by rw[u]),o,(by rw[v]),lX d,rfl⟩|refine Cn.any ⟨_,_,upd (upd st id none) id2 (some (.arr 51 ((cJ xs i g).map Dt.z))),rfl,zwr _,qY (by rw[u]) d,id2,(by rw[v];congr 1;omega),oS l,rfl⟩|apply wD pk [8] [];kernel_rfl;rfl;rfl|refine Cn.rr ?_;exact⟨P,(by rw[v,hm]),lX E,(by rw[hz];rfl)⟩;done|apply wZ;rfl|omega|constructor|refine asB pk (rows:=X++aX k 2) rfl rfl rfl rfl (.inr (aA _ _ _)) (by rw[hj];omega) rfl λc C D=>?_;have J:=D (aA _ _ _);rw[hj]at J|apply adK pk (j:=i) (rows:=X++aX k 2);(iterate 4 rfl);rotate_left;rfl;rfl;exact .inr (aA _ _ _);rw[hj];omega;exact bC rfl rfl;rw[hj];omega|refine apZ pk (kq:= .i64) (kn:= .i64) (i:=i) (m:=n+m-i) (sz:=2) (rows:=X++aX k 2) 16 rfl (congrArg (λz=>some (PV.val (.int .i64 z))) (show _=((n+m-i:Nat):Int)from by omega)) rfl (by kernel_rfl) rfl rfl rfl rfl (aA _ _ _) (by rw[hj];omega) (by rw[hj];omega) (by rw[hj];omega) Q (by omega) (by omega) (by omega) rfl λid2 l=>?_;rw[O];have V:o≠id2:=(λe=>by rw[<-e]at l;have l:=(aA _ _ _).symm.trans l;cases l)|apply mL pk (i) (n+m-i);(iterate 4 rfl);rotate_left;rfl;intro _;exact⟨_,bC rfl rfl,by omega⟩;intro _;exact⟨_,bZ,by omega⟩;intro _;omega;intro _;omega;rfl|apply mL pk (i+m) (n-i);(iterate 4 rfl);rotate_left;rfl;intro _;exact⟨_,bC rfl (show _=((i+m:Nat):Int)from by omega),by omega⟩;intro _;exact⟨_,bZ,by omega⟩;intro _;omega;intro _;omega;rfl|apply mL pk (i) (n-i);(iterate 4 rfl);rotate_left;rfl;intro _;exact⟨_,bC rfl rfl,by omega⟩;intro _;exact⟨_,bZ,by omega⟩;intro _;omega;intro _;omega;rfl|refine asB pk (rows:=X++aX m 2) rfl rfl rfl rfl (.inl (aA _ _ _)) (by rw[hj];omega) rfl λc C D=>?_;rw[hj]at C|apply adK pk (j:=n+m) (rows:=X++aX m 2);(iterate 4 rfl);rotate_left;rfl;rfl;exact .inl (aA _ _ _);rw[hj];omega;exact bC rfl (show _=((n+m:Nat):Int)from by omega);rw[hj];omega|refine ovA pk (w:=true) (tS:=94) (tR:=4) (off:=i+m) (len:=n-i) (e:=51) (sz:=2) (rows:=X++aX m 2) rfl rfl func295 (by kernel_rfl) (by kernel_rfl) (by kernel_rfl) (by kernel_rfl) rfl rfl rfl H rfl (.inl (aA _ _ _)) (by rw[hj];omega) vP (by omega) ?_ rfl rfl ?_;rotate_left|refine mO pk (e:=51) (sz:=2) (rows:=X++aX m 2) (new:=X.drop i) (m:=n+m-i) (n:=n-i) (len:=n-i) rfl rfl rfl rfl rfl (aA _ _ _) (by rw[hj];omega) (oR (k:=m) rfl (.inl (aA _ _ _)) s (by omega) vP x (by omega) (by omega)) (by rw[zld];omega) (λr q=>y r (List.mem_of_mem_drop q)) (by omega) (by omega) rfl ?_|refine mO pk (e:=51) (sz:=2) (rows:=aU (X++aX m 2) (i+m) (X.drop i)) (new:=Y) (m:=Y.length) (n:=Y.length) (len:=n+m-i) rfl rfl rfl rfl rfl (aA _ _ _) (by omega) (uP aT rfl rfl rfl p B) rfl p (by omega) (by omega) rfl ?_|refine mO pk (e:=51) (sz:=2) (rows:=X.take i++aX (n+m-i) 2) (new:=Y) (m:=Y.length) (n:=Y.length) (len:=n+m-i) rfl rfl rfl rfl rfl (aA _ _ _) (by omega) (uP aT rfl rfl rfl p B) rfl p (by omega) (by omega) rfl ?_|refine mO pk (e:=51) (sz:=2) (rows:=aU (X.take i++aX (n+m-i) 2) i Y) (new:=X.drop i) (m:=n-i) (n:=n-i) (len:=n-i) rfl rfl rfl rfl rfl (aA _ _ _) (by omega) (oR (k:=k) rfl (.inr ((aB ‹_›).trans ((aB ‹_›).trans (aA _ _ _)))) s (by omega) vP x (by omega) (by omega)) (by rw[zld];omega) (λr q=>y r (List.mem_of_mem_drop q)) (by omega) (by omega) rfl ?_|apply apV pk (f:=Dt.z) g 16;(iterate 9 rfl);(assumption);omega;exactλ_=>rfl;exactλ_=>rfl;exact Q;omega;omega;rfl;intro P E|apply aCq pk i i;(iterate 4 rfl);rotate_left;rfl;intro _;exact bC rfl rfl;intro _;exact bZ;intro _;omega;intro _;omega;rfl|intro h;simp at h|intro h)
theorem aKA(xs a:List Dt)(i id n:Nat)(z:Int)(st:aD)(b:st id=some (.arr 51 (xs.map Dt.z)))(hn:xs.length=n)(hz:z=((i:Nat):Int))(hi:i<=n)(hy:a≠[])(hl:n+a.length<1000000000000):qc 210 [.vec id 2 0 n,vi z, .seq (a.map Dt.z)] st (aGW st id (cJ xs i a)):=by
 subst hz;exact auI _ _ i _ n _ b hn hi hy hl
theorem fA{id2:Nat}(a:st id=none)(h:upd (upd st id o) id none id2=none):st id2=none:=by
 by_cases e:id2=id
 ·grind
 ·rwa[aB e,aB e]at h
theorem iR{id2:Nat}(c:st id=none):StSub (upd st id2 b) (upd (upd (upd st id o) id none) id2 b):=λj=>by
 by_cases e:j=id2
 ·subst e;right;rw[aA,aA]
 ·rw[aB e,aB e]
  by_cases a:j=id
  ·grind
  ·right;rw[aB a,aB a]
theorem asF(x d:Dt):qf 209 [.agg x.z, .rp d.z] (vb (aW x d)):=by
 refine pF func209 rfl λst=>?_
 repeat' first|apply wZ;rfl|constructor|apply auC x d|show(_:PV)=_;rw[<-aBq];done|apply wY;rfl
def iQ(l:List Dt)(d:Dt):Nat:=(l.findIdx? λx=>aW x d).getD l.length
theorem ajI(l:List Dt)(d:Dt):iQ l d<=l.length:=by
 unfold iQ;cases h:l.findIdx? _ with
 |none=>simp
 |some k=>exact Nat.le_of_lt (zfi.1 h).1
def cF(a:Ln)(d:Dt):Ln:=if d∈a.b then a else{a with b:=cJ a.b (iQ a.b d) [d]}
theorem aIp(a:Ln)(d:Dt)(st:aD)(hl:a.b.length<100000000000):qc 133 [.agg a.z, .agg d.z] st λr S=>(r= .agg a.z/\S=st/\d∈a.b)\/(d∉a.b/\∃id,r= .agg [vi a.key, .seq (a.c.map Cl.z), .vec id 2 0 (cJ a.b (iQ a.b d) [d]).length]/\st id=none/\S=upd st id (some (.arr 51 ((cJ a.b (iQ a.b d) [d]).map Dt.z)))):=by
 have hc:=akC a.b d (by omega);have hi:=aDu 209 [.rp d.z] (λx=>aW x d) a.b (by omega) λx=>asF x d;have f:(a.b.any λy=>decide (d=y))=decide (d∈a.b):=by
  rw[zbi,zay,zde];constructor
  ·rintro⟨y,hy,e⟩;rw[of_decide_eq_true e];exact hy
  ·exactλh=>⟨d,h,zdt rfl⟩
 rw[f]at hc;by_cases hd:d∈a.b;rw[zdt hd]at hc;rotate_left;rw[zdj hd]at hc;obtain⟨k,hk⟩:∃k,iQ a.b d=k:=⟨_,rfl⟩;have c:=ajI a.b d;rw[hk]at c⊢;have g:(cJ a.b k [d]).length=a.b.length+1:=oT c;rcases Nat.lt_or_ge k a.b.length with l|i
 have b:dJ (λx=>aW x d) a.b=((k:Nat):Int):=by
  unfold dJ;unfold iQ at hk;cases h:a.b.findIdx? λx=>aW x d with
  |none=>rw[h]at hk;simp at hk;omega
  |some j=>rw[h]at hk;simp at hk;simp[hk]
 rw[b]at hi;rotate_left;obtain rfl:k=a.b.length:=by omega
 have b:dJ (λx=>aW x d) a.b= -1:=by
  unfold dJ;unfold iQ at hk;cases h:a.b.findIdx? λx=>aW x d with
  |none=>rfl
  |some j=>
   have:=(zfi.1 h).1;rw[h]at hk;simp at hk;omega
 rw[b]at hi
 all_goals (refine pC func133 rfl ?_;repeat'(first|exact Cn.any ⟨_,_,upd st id2 (some (.arr 51 ((cJ a.b a.b.length [d]).map Dt.z))),rfl,zwr _,iR hid, .inr ⟨hd,id2,rfl,fA hid hid2,rfl⟩⟩|exact Cn.any ⟨_,_,upd st id2 (some (.arr 51 ((cJ a.b k [d]).map Dt.z))),rfl,zwr _,iR hid, .inr ⟨hd,id2,rfl,fA hid hid2,rfl⟩⟩|apply wDO pk [0,1,3,4,5,2,6,7,8] [2,6] [] [5,6] [];rfl;rfl;kernel_rfl;rfl;rfl|apply Cn.cf;focus(((first|apply hc|apply hi));done)|apply cP;rfl;apply(aDG a.b _ (by omega));rintro _ st' (⟨id,rfl,hid,rfl⟩)|apply cP;rfl;apply(aKA a.b [d] a.b.length id a.b.length _ _ (aA _ _ _) rfl (by simp) (by omega) (by simp) (by simp;omega));rintro _ st' (⟨id2,rfl,hid2,rfl⟩)|apply cP;rfl;apply(auI a.b [d] k id a.b.length _ (aA _ _ _) rfl (by omega) (by simp) (by simp;omega));rintro _ st' (⟨id2,rfl,hid2,rfl⟩)|refine Cn.rr ?_;exact .inl ⟨rfl,rfl,hd⟩;done|apply wZ;rfl|constructor|apply bO 3;rfl;rfl|apply wY;rfl))
theorem ahA(a:Ln)(d:Dt)(hl:a.b.length<100000000000):qf 133 [.agg a.z, .agg d.z] (.agg (cF a d).z):=λst=>
 eS (aIp a d st hl) λp st' h=>by
  rcases h with⟨rfl,rfl,hd⟩|⟨hd,id,rfl,b,rfl⟩
  ·exact .inr ⟨_,_,zwr _,zsr _,by rw[cF,zp hd],rfl⟩
  ·refine .inl ⟨id,51,(cJ _ _ [d]).map _,_,st,aA _ _ _,vP, .agg (.cons .refl (.cons .refl (.cons ?_ .nil))),bN b,by rw[cF,zn hd];rfl,rfl⟩
   have e:((cJ _ _ [d]).map Dt.z).length=(cJ a.b (iQ a.b d) [d]).length:=zql _;rw[<-e];exact .all
theorem ayA(l:List Ln)(st:aD)(hl:l.length<1000000000000):qc 57 [.seq (l.map Ln.z)] st (LR 96 3 st (l.map Ln.z)):=by
 refine pC func57 rfl ?_
 repeat' first|refine Cn.rr ?_;(first|exact .inr ⟨rfl,hb h,zsr _⟩|exact .inl ⟨c,by rw[zql],a,aA _ _ _,bN a⟩);done|apply wZ;rfl|constructor|apply ap0 pk (f:=Ln.z) l 56;(iterate 10 rfl);exactλ_=>rfl;exactλ_=>rfl;exact oI;omega;omega;rfl;intro c a|apply aGC pk;(iterate 6 rfl);intro b hb|intro h
theorem aDH(l:List Ln)(st:aD)(hl:l.length<1000000000000):qc 57 [.seq (l.map Ln.z)] st λp S=>∃id,p= .vec id 3 0 l.length/\st id=none/\S=upd st id (some (.arr 96 (l.map Ln.z))):=
 abQ (ahK (ayA l st hl)) λp st' ⟨id,a,b,c⟩=>⟨p,st',zwr _,zsr _,id,by rw[a,zql],b,c⟩
theorem axV(l:List Da)(st:aD)(hl:l.length<1000000000000):qc 120 [.seq (l.map Da.z)] st (LR 108 1 st (l.map Da.z)):=by
 refine pC func120 rfl ?_
 repeat' first|refine Cn.rr ?_;(first|exact .inr ⟨rfl,hb h,zsr _⟩|exact .inl ⟨c,by rw[zql],a,aA _ _ _,bN a⟩);done|apply wZ;rfl|constructor|apply ap0 pk (f:=Da.z) l 24;(iterate 10 rfl);exactλ_=>rfl;exactλ_=>rfl;exact uX;omega;omega;rfl;intro c a|apply aGC pk;(iterate 6 rfl);intro b hb|intro h
theorem aEV(l:List Da)(st:aD)(hl:l.length<1000000000000):qc 120 [.seq (l.map Da.z)] st λp S=>∃id,p= .vec id 1 0 l.length/\st id=none/\S=upd st id (some (.arr 108 (l.map Da.z))):=
 abQ (ahK (axV l st hl)) λp st' ⟨id,a,b,c⟩=>⟨p,st',zwr _,zsr _,id,by rw[a,zql],b,c⟩
def cU(xs:List Ln)(i:Nat)(a:List Ln):List Ln:=xs.take i++a++xs.drop i
theorem avD(xs:List Ln)(i:Nat)(a:List Ln):(cU xs i a).map Ln.z=(xs.map Ln.z).take i++a.map Ln.z++(xs.map Ln.z).drop i:=by
 unfold cU;simp
theorem acV{xs:List Ln}{a:List Ln}(hi:i<=xs.length):(cU xs i a).length=xs.length+a.length:=by
 unfold cU
 grind
def aMZ(st:aD)(id:Nat)(zs:List Ln)(r:PV)(S:aD):Prop:=∃a,r= .vec a 3 0 zs.length/\upd st id none a=none/\S=upd (upd st id none) a (some (.arr 96 (zs.map Ln.z)))
theorem aF4(xs g:List Ln)(i id n:Nat)(st:aD)(N:st id=some (.arr 96 (xs.map Ln.z)))(hn:xs.length=n)(hi:i<=n)(hy:g≠[])(hl:n+g.length<1000000000000):qc 59 [.vec id 3 0 n,vi (i:Nat), .seq (g.map Ln.z)] st (aMZ st id (cU xs i g)):=by
 obtain⟨m,hm⟩:∃m,g.length=m:=⟨_,rfl⟩;have t:(g.map Ln.z).length=m:=(zql _).trans hm;have U:0<m:=by rw[<-hm];exact List.length_pos_iff.2 hy
 rw[hm]at hl;have v:(cU xs i g).length=n+m:=by rw[acV (by omega),hn,hm]
 have F:=avD xs i g;have Q:=oI;refine pC func59 rfl ?_;by_cases M:i=n;subst M;have hz:cU xs i g=xs++g:=by unfold cU;rw[ztl (by omega),List.drop_of_length_le (by omega),List.append_nil]
 rotate_left;have T:i<n:=by omega
 have s:(xs.map Ln.z).length=n:=(zql _).trans hn;have x:∀r∈xs.map Ln.z,r.all PV.one=true:=λr q=>by obtain⟨a,_,rfl⟩:=zmq.1 q;rfl
 have y:∀r∈xs.map Ln.z,r.length=3:=λr q=>by obtain⟨a,_,rfl⟩:=zmq.1 q;rfl
 have B:∀r∈g.map Ln.z,r.all PV.one=true:=λr q=>by obtain⟨a,_,rfl⟩:=zmq.1 q;rfl
 have p:∀r∈g.map Ln.z,r.length=3:=λr q=>by obtain⟨a,_,rfl⟩:=zmq.1 q;rfl
 have hj:∀k,(xs.map Ln.z++aX k 3).length=n+k:=λk=>by rw[zla,s];unfold aX;rw[List.length_replicate]
 generalize R:xs.map Ln.z=X at*;generalize S:g.map Ln.z=Y at*;have I:Y≠[]:=λe=>by rw[e]at t;simp at t;omega
 obtain⟨Z,W,yr,H⟩:∃c cs G,Y=(c::cs)::G:=by
  cases A:Y with
  |nil=>exact absurd A I
  |cons a b=>
   cases ha:a with
   |nil=>have:=p a (by rw[A];simp);rw[ha]at this;cases this
   |cons c cs=>exact⟨c,cs,b,rfl⟩
 refine yF 0 m (id:=id) (rows:=X) rfl N lH s (by omega) (by omega) (λk o hk d=>?_) λo d=>?_;have d:st o=none:=d;have O:(X++aX k 3).take i=X.take i:=List.take_append_of_le_length (by omega);have L:(X.take i++aX (n+m-i) 3).length=n+m:=by rw[zla,zlt];unfold aX;rw[List.length_replicate];omega
 have K:(aU (X.take i++aX (n+m-i) 3) i Y).length=n+m:=by rw[dX (by omega),L]
 have u:aU (aU (X.take i++aX (n+m-i) 3) i Y) (i+m) (X.drop i)=(cU xs i g).map Ln.z:=by rw[F];rw[<-s];exact yT t (by omega)
 rotate_left;have d:st o=none:=d;have K:(aU (X++aX m 3) (i+m) (X.drop i)).length=n+m:=by rw[dX (by rw[zld,hj];omega),hj]
 have u:aU (aU (X++aX m 3) (i+m) (X.drop i)) i Y=(cU xs i g).map Ln.z:=by rw[F];exact zQ t (by omega)
 all_goals (repeat' first|refine Cn.any ⟨_,_,upd (upd st id none) o (some (.arr 96 ((cU xs i g).map Ln.z))),rfl,zwr _,qX (by rw[u]),o,(by rw[v]),lX d,rfl⟩|refine Cn.any ⟨_,_,upd (upd st id none) id2 (some (.arr 96 ((cU xs i g).map Ln.z))),rfl,zwr _,qY (by rw[u]) d,id2,(by rw[v];congr 1;omega),oS l,rfl⟩|apply wD pk [8] [];kernel_rfl;rfl;rfl|refine Cn.rr ?_;exact⟨P,(by rw[v,hm]),lX E,(by rw[hz];rfl)⟩;done|apply wZ;rfl|omega|constructor|refine asB pk (rows:=X++aX k 3) rfl rfl rfl rfl (.inr (aA _ _ _)) (by rw[hj];omega) rfl λc C D=>?_;have J:=D (aA _ _ _);rw[hj]at J|apply adK pk (j:=i) (rows:=X++aX k 3);(iterate 4 rfl);rotate_left;rfl;rfl;exact .inr (aA _ _ _);rw[hj];omega;exact bC rfl rfl;rw[hj];omega|refine apZ pk (kq:= .i64) (kn:= .i64) (i:=i) (m:=n+m-i) (sz:=3) (rows:=X++aX k 3) 56 rfl (congrArg (λz=>some (PV.val (.int .i64 z))) (show _=((n+m-i:Nat):Int)from by omega)) rfl (by kernel_rfl) rfl rfl rfl rfl (aA _ _ _) (by rw[hj];omega) (by rw[hj];omega) (by rw[hj];omega) Q (by omega) (by omega) (by omega) rfl λid2 l=>?_;rw[O];have V:o≠id2:=(λe=>by rw[<-e]at l;have l:=(aA _ _ _).symm.trans l;cases l)|apply mL pk (i) (n+m-i);(iterate 4 rfl);rotate_left;rfl;intro _;exact⟨_,bC rfl rfl,by omega⟩;intro _;exact⟨_,bZ,by omega⟩;intro _;omega;intro _;omega;rfl|apply mL pk (i+m) (n-i);(iterate 4 rfl);rotate_left;rfl;intro _;exact⟨_,bC rfl (show _=((i+m:Nat):Int)from by omega),by omega⟩;intro _;exact⟨_,bZ,by omega⟩;intro _;omega;intro _;omega;rfl|apply mL pk (i) (n-i);(iterate 4 rfl);rotate_left;rfl;intro _;exact⟨_,bC rfl rfl,by omega⟩;intro _;exact⟨_,bZ,by omega⟩;intro _;omega;intro _;omega;rfl|refine asB pk (rows:=X++aX m 3) rfl rfl rfl rfl (.inl (aA _ _ _)) (by rw[hj];omega) rfl λc C D=>?_;rw[hj]at C|apply adK pk (j:=n+m) (rows:=X++aX m 3);(iterate 4 rfl);rotate_left;rfl;rfl;exact .inl (aA _ _ _);rw[hj];omega;exact bC rfl (show _=((n+m:Nat):Int)from by omega);rw[hj];omega|refine ovA pk (w:=true) (tS:=106) (tR:=4) (off:=i+m) (len:=n-i) (e:=96) (sz:=3) (rows:=X++aX m 3) rfl rfl func118 (by kernel_rfl) (by kernel_rfl) (by kernel_rfl) (by kernel_rfl) rfl rfl rfl H rfl (.inl (aA _ _ _)) (by rw[hj];omega) lH (by omega) ?_ rfl rfl ?_;rotate_left|refine mO pk (e:=96) (sz:=3) (rows:=X++aX m 3) (new:=X.drop i) (m:=n+m-i) (n:=n-i) (len:=n-i) rfl rfl rfl rfl rfl (aA _ _ _) (by rw[hj];omega) (oR (k:=m) rfl (.inl (aA _ _ _)) s (by omega) lH x (by omega) (by omega)) (by rw[zld];omega) (λr q=>y r (List.mem_of_mem_drop q)) (by omega) (by omega) rfl ?_|refine mO pk (e:=96) (sz:=3) (rows:=aU (X++aX m 3) (i+m) (X.drop i)) (new:=Y) (m:=Y.length) (n:=Y.length) (len:=n+m-i) rfl rfl rfl rfl rfl (aA _ _ _) (by omega) (uP aT rfl rfl rfl p B) rfl p (by omega) (by omega) rfl ?_|refine mO pk (e:=96) (sz:=3) (rows:=X.take i++aX (n+m-i) 3) (new:=Y) (m:=Y.length) (n:=Y.length) (len:=n+m-i) rfl rfl rfl rfl rfl (aA _ _ _) (by omega) (uP aT rfl rfl rfl p B) rfl p (by omega) (by omega) rfl ?_|refine mO pk (e:=96) (sz:=3) (rows:=aU (X.take i++aX (n+m-i) 3) i Y) (new:=X.drop i) (m:=n-i) (n:=n-i) (len:=n-i) rfl rfl rfl rfl rfl (aA _ _ _) (by omega) (oR (k:=k) rfl (.inr ((aB ‹_›).trans ((aB ‹_›).trans (aA _ _ _)))) s (by omega) lH x (by omega) (by omega)) (by rw[zld];omega) (λr q=>y r (List.mem_of_mem_drop q)) (by omega) (by omega) rfl ?_|apply apV pk (f:=Ln.z) g 56;(iterate 9 rfl);(assumption);omega;exactλ_=>rfl;exactλ_=>rfl;exact Q;omega;omega;rfl;intro P E|apply aCq pk i i;(iterate 4 rfl);rotate_left;rfl;intro _;exact bC rfl rfl;intro _;exact bZ;intro _;omega;intro _;omega;rfl|intro h;simp at h|intro h)
abbrev Bs :=List Da
def bsC(b:Bs):List PV:=[.seq (b.map Da.z)]
def okT(b:Bs)(k:Int):Bool:=decide (0<=k)&&decide (k<b.length)
def aF(b:Bs)(k:Int):List Ln:=if okT b k then(b[k.toNat]!).l else[]
theorem aB8(b:Bs)(k:Int)(h:okT b k=false):qf 56 [.agg (bsC b),vi k] (.tup [.agg [.seq [], .seq [],vi 0],vb false]):=by
 unfold okT at h;simp only[Bool.and_eq_false_iff,zdf]at h;refine pF func56 rfl λst=>?_
 repeat' first|refine Cn.any ?_;refine⟨_,_,_,rfl,zwf _,zsr _,?_,rfl⟩;rfl|apply wZ;rfl|constructor|intro h;simp at h;omega|intro h;simp at h
theorem ahU(b:Bs)(k:Nat)(h:k<b.length):qf 56 [.agg (bsC b),vi (k:Nat)] (.tup [.agg [.seq (b[k].l.map Ln.z), .seq (b.map Da.z),vi (k:Nat)],vb true]):=by
 refine pF func56 rfl λst=>?_
 repeat' first|apply wZ;rfl|apply KR.mk;kernel_rfl|constructor|apply wI;rfl|apply gE;omega|simp<;>omega|intro h;simp at h
theorem aGq(x:Ln)(k:Int):qf 116 [.agg x.z, .rp [vi k]] (vb (decide (x.key=k))):=by
 refine pF func116 rfl λst=>?_
 repeat' first|apply wZ;rfl|constructor
theorem aIB(x:Ln)(k:Int):qf 117 [.agg x.z, .rp [vi k]] (vb (decide (x.key>k))):=by
 refine pF func117 rfl λst=>?_
 repeat' first|apply wZ;rfl|constructor
def atP(l:List Ln)(k:Int):Int×Bool:=
 if dJ (λx=>decide (x.key=k)) l>=0 then(dJ (λx=>decide (x.key=k)) l,true)
 else if dJ (λx=>decide (x.key>k)) l>=0 then(dJ (λx=>decide (x.key>k)) l,false)else(l.length,false)
theorem aqA(l:List Ln)(k:Int)(hl:l.length<1000000000000):qf 58 [.seq (l.map Ln.z),vi k] (.tup [vi ((atP l k).1),vb ((atP l k).2)]):=by
 have a:=amB 116 [.rp [vi k]] (λx=>decide (x.key=k)) l (by omega) λx=>aGq x k;have b:=amB 117 [.rp [vi k]] (λx=>decide (x.key>k)) l (by omega) λx=>aIB x k;unfold atP;generalize dJ (λx=>decide (x.key=k)) l=A at*;generalize dJ (λx=>decide (x.key>k)) l=B at*;refine pF func58 rfl λst=>?_
 repeat' first|apply wZ;rfl|constructor|(first|apply a|apply b)|show(_:PV)=_;(first|rw[zp (by omega)];done|rw[zn (by omega),zp (by omega)];done|rw[zn (by omega),zn (by omega)];simp);done|apply bO 3;rfl;rfl|apply wY;rfl|intro h;simp at h
theorem aDt{b:AObj}(h:b=a):StSub (upd st id (some a)) (upd (upd st id o) id (some b)):=λj=>by
 subst h
 right
 by_cases e:j=id
 ·subst e;rw[aA,aA]
 ·simp only[aB e]
theorem aIT(b:Bs)(ls a:List Ln)(k:Nat)(st:aD)(hk:k<b.length)(hl:b.length<100000000000):qc 60 [.agg [.seq (a.map Ln.z), .seq (b.map Da.z),vi (k:Nat)], .seq (ls.map Ln.z)] st λr S=>∃id,r= .agg [.vec id 1 0 b.length]/\st id=none/\S=upd st id (some (.arr 108 ((b.set k ⟨ls⟩).map Da.z))):=by
 refine pC func60 rfl ?_
 repeat' first|refine Cn.any ⟨_,_,upd st id (some (.arr 108 ((b.set k ⟨ls⟩).map Da.z))),rfl,zwr _,?_,id,rfl,hid,rfl⟩;exact aDt (by simp)|apply cP;rfl;apply(aEV b _ (by omega));rintro _ st' (⟨id,rfl,hid,rfl⟩)|apply wZ;rfl|constructor|apply ixA pk;(iterate 5 rfl);rotate_left;rfl;intro hw;exact(show _=((k:Nat):Int)from by omega);intro hw;omega;rfl;exact Nat.zero_add _|apply stA pk Da.elem;rfl;rfl;rfl;exact aA _ _ _;omega;rfl|apply wY;rfl
theorem aDo(b:Bs)(ls c:List Ln)(k:Nat)(hk:k<b.length)(hl:b.length<100000000000):qf 60 [.agg [.seq (c.map Ln.z), .seq (b.map Da.z),vi (k:Nat)], .seq (ls.map Ln.z)] (.agg (bsC (b.set k ⟨ls⟩))):=λst=>
 eS (aIT b _ _ k _ hk hl) λp st' h=>by
  obtain⟨id,rfl,a,rfl⟩:=h
  refine .inl ⟨id,108,(b.set k _).map _,_,st,aA _ _ _,aeR, .agg (.cons ?_ .nil),bN a,rfl,rfl⟩
  have e:((b.set k ⟨ls⟩).map Da.z).length=b.length:=by simp
  rw[<-e];exact .all
theorem aFk(b:Bs)(ls c:List Ln)(k id n:Nat)(st:aD)(a:st id=some (.arr 96 (ls.map Ln.z)))(hn:ls.length=n)(hk:k<b.length)(hl:b.length<100000000000):qc 60 [.agg [.seq (c.map Ln.z), .seq (b.map Da.z),vi (k:Nat)], .vec id 3 0 n] st λr S=>r= .agg (bsC (b.set k ⟨ls⟩))/\S=upd st id none:=
 PC.freeze2 a lH ((zql _).trans hn) (aDo b _ _ k hk hl _)
theorem agG(f:α->Bool)(l:List α):(∃j:Nat,j<l.length/\dJ f l=j)\/dJ f l= -1:=by
 unfold dJ;cases h:l.findIdx? f with
 |none=>simp
 |some j=>exact .inl ⟨j,(zfi.1 h).1,rfl⟩
theorem arS(l:List Ln)(k:Int):∃j:Nat,j<=l.length/\(atP l k).1=j/\((atP l k).2=true->j<l.length):=by
 unfold atP;rcases agG (λx=>decide (x.key=k)) l with⟨j,hj,e⟩|e
 ·grind
 ·rcases agG (λx:Ln=>decide (x.key>k)) l with⟨j,hj,e⟩|e
  ·grind
  grind
def sN(l:List Ln)(a:Ln):List Ln:=if(atP l a.key).2 then l.set (atP l a.key).1.toNat a else cU l (atP l a.key).1.toNat [a]
def sM(b:Bs)(k:Int)(a:Ln):Bs:=if okT b k then b.set k.toNat ⟨sN (aF b k) a⟩else b
theorem afN(b:Bs)(k:Int)(a:Ln)(hl:b.length<100000000000)(c:∀d∈b,d.l.length<100000000000):qf 27 [.agg (bsC b),vi k, .agg a.z] (.agg (bsC (sM b k a))):=by
 unfold sM;rcases hok:okT b k with _|_
 have ho:=aB8 b k hok;rw[zn (by simp)];rotate_left;obtain⟨q,rfl,hq⟩:∃q:Nat,k=q/\q<b.length:=by
  unfold okT at hok;simp only[zba,zde]at hok;exact⟨k.toNat,by omega,by omega⟩
 have ho:=ahU b q hq;have l:=c b[q] (zgm hq);have e:aF b q=b[q].l:=by unfold aF;rw[zp hok];simp[hq]
 rw[zp rfl,e,zin];generalize h:b[q].l=L at*;have ha:=aqA L a.key (by omega);have⟨j,hj,f,g⟩:=arS L a.key;unfold sN;rw[f]at ha⊢;rw[zin];rcases hf:(atP L a.key).2 with _|_
 rw[hf]at ha;rw[zn (by simp)];rotate_left;have i:=g hf;rw[hf]at ha;rw[zp rfl]
 all_goals (refine pF func27 rfl λst=>?_;repeat'(first|exact Cn.any ⟨_,_,st,rfl,zwr _,aG (aG (aG (zsr _) hid) hid) hid,(by rw[show(L.toArray.setIfInBounds j a).toList=L.set j a from by simp];rfl),rfl⟩|exact Cn.any ⟨_,_,st,rfl,zwr _,aG (aG (aG (aG (zsr _) hid) hid) (fA hid hid2)) (fA hid hid2),rfl,rfl⟩|apply Cn.cf;focus(((first|apply ho|apply ha));done)|apply cP;rfl;apply(aDH L _ (by omega));rintro _ st' (⟨id,rfl,hid,rfl⟩)|apply cP;rfl;apply(aFk b ((L.toArray.setIfInBounds j a).toList) L q id L.length _ (aA _ _ _) (by simp) hq hl);rintro _ st' ⟨rfl,rfl⟩|apply cP;rfl;apply(aF4 L [a] j id L.length _ (aA _ _ _) rfl hj (by simp) (by simp;omega));rintro _ st' (⟨id2,rfl,hid2,rfl⟩)|apply cP;rfl;apply aFk b (cU L j [a]) L q id2 (cU L j [a]).length _ (aA _ _ _) rfl hq hl;rintro _ st' ⟨rfl,rfl⟩|apply wZ;rfl|constructor|apply ixA pk;(iterate 5 rfl);rotate_left;rfl;intro hw;exact(show _=((j:Nat):Int)from by omega);intro hw;omega;rfl;exact Nat.zero_add _|apply stA pk Ln.elem;rfl;rfl;rfl;exact aA _ _ _;omega;rfl|exact rfl|apply wY;rfl))
theorem aLP(k:Int):atP [] k=(0,false):=rfl
theorem aDy(a b:List Dt)(hb:a.length<4611686018427387904):qf 107 [.seq (a.map Dt.z), .seq (b.map Dt.z)] (vb (decide (a=b))):=by
 by_cases hl:¬(a.length=b.length);have e:decide (a=b)=false:=zdj λq=>hl (by rw[q]);refine pF func107 rfl λst=>?_;rotate_left
 replace hl:=zdn hl
 refine pF func107 rfl λst=>?_
 repeat' first|apply wZ;rfl|constructor|simp<;>omega|intro h;simp at h
 refine aC (X:={x:Nat//x<=a.length/\∀j (h:j<x) (c:j<a.length) (d:j<b.length),a[j]=b[j]}) (λi=>((((St.nil 26 st).pv 0 (.seq (a.map Dt.z))).pv 1 (.seq (b.map Dt.z))).pv 5 (vi (i.1:Nat)))) (λi=>a.length-i.1) ⟨0,by omega,λ_ h=>absurd h (Nat.not_lt_zero _)⟩ ?_ λi=>?_;rotate_left;have⟨i,hi,g⟩:=i;dsimp only;by_cases l:a.length<=i;have e:decide (a=b)=true:=zdt (List.ext_getElem hl λj c d=>g j (by omega) c d);rotate_left;have c:i<a.length:=by omega
 have d:i<b.length:=by omega
 have f:¬a[i]=b[i]->decide (a=b)=false:=λh=>zdj λq=>h (by subst q;rfl);have k:a[i]=b[i]->∀j (h:j<i+1) (c:j<a.length) (d:j<b.length),a[j]=b[j]:=λh j hj c d=>by
  rcases zls.1 hj with q|q
  ·exact g j q c d
  ·subst q;exact h
 rw[Dt.ext_iff]at f k
 all_goals (repeat' first|refine⟨⟨i+1,by omega,k ‹_›⟩,?_,?_⟩|apply wZ;rfl|apply KR.mk;kernel_rfl|omega|constructor|show(_:PV)=_;rw[f (by grind)];done|apply wI;rfl|apply gE;omega|show(_:PV)=_;rw[e];done|simp<;>omega|intro h;simp at h)
theorem aEO(a b:Cl)(hb:a.p.length<4611686018427387904):qf 108 [.agg a.z, .agg b.z] (vb (decide (a=b))):=by
 by_cases hl:¬(a.k=b.k/\(a.val.k=b.val.k/\a.val.n=b.val.n/\a.val.s=b.val.s)/\a.p.length=b.p.length);have e:decide (a=b)=false:=zdj λq=>hl (by rw[q];simp);rw[e];have hx:(a.k=b.k/\a.val.k=b.val.k/\a.val.n=b.val.n/\a.val.s=b.val.s)/\(a.p.length:Int)=(b.p.length:Int)->False:=λh=>hl ⟨h.1.1,h.1.2,by omega⟩;refine pF func108 rfl λst=>?_;rotate_left
 replace hl:=zdn hl
 obtain⟨k1,⟨k2,m,o⟩,p⟩:=hl;have hv:a.val=b.val:=(Vl.ext_iff _ _).2 ⟨k2,m,o⟩;refine pF func108 rfl λst=>?_
 repeat' first|apply wZ;rfl|constructor|show(_:PV)=_;(exfalso;grind);done|intro h;simp at h
 refine aC (X:={x:Nat//x<=a.p.length/\∀j (h:j<x) (c:j<a.p.length) (d:j<b.p.length),a.p[j]=b.p[j]}) (λi=>((((St.nil 45 st).var 2 92 (a.z)).var 3 92 (b.z)).pv 5 (vi (i.1:Nat)))) (λi=>a.p.length-i.1) ⟨0,by omega,λ_ h=>absurd h (Nat.not_lt_zero _)⟩ ?_ λi=>?_;rotate_left;have⟨i,hi,g⟩:=i;dsimp only;by_cases l:a.p.length<=i;have e:decide (a=b)=true:=zdt ((Cl.ext_iff _ _).2 ⟨k1,hv,List.ext_getElem p λj c d=>g j (by omega) c d⟩);rotate_left;have c:i<a.p.length:=by omega
 have d:i<b.p.length:=by omega
 have f:¬a.p[i]=b.p[i]->decide (a=b)=false:=λh=>zdj λq=>h (by subst q;rfl);have k:a.p[i]=b.p[i]->∀j (h:j<i+1) (c:j<a.p.length) (d:j<b.p.length),a.p[j]=b.p[j]:=λh j hj c d=>by
  rcases zls.1 hj with q|q
  ·exact g j q c d
  ·subst q;exact h
 rw[Pt.ext_iff,Vl.ext_iff,Dt.ext_iff,Dt.ext_iff]at f k
 all_goals (repeat' first|refine⟨⟨i+1,by omega,k (by grind)⟩,?_,?_⟩|exact(hx ‹_›).elim|apply wZ;rfl|apply KR.mk;kernel_rfl|omega|constructor|show(_:PV)=_;rw[f (by grind)];done|apply wI;rfl|apply gE;omega|show(_:PV)=_;rw[e];done|simp<;>omega|intro h;simp at h)
theorem akM(a b:Ln)(d:a.b.length<4611686018427387904)(hb:a.c.length<4611686018427387904)(hp:∀c∈a.c,c.p.length<4611686018427387904):qf 49 [.agg a.z, .agg b.z] (vb (decide (a=b))):=by
 have hd:=aDy a.b b.b d;by_cases hl:¬((a.key=b.key/\a.c.length=b.c.length)/\a.b=b.b);have e:decide (a=b)=false:=zdj λq=>hl (by rw[q];simp);rw[e];have hx:(a.key=b.key/\(a.c.length:Int)=(b.c.length:Int))/\a.b=b.b->False:=λh=>hl ⟨⟨h.1.1,by omega⟩,h.2⟩;refine pF func49 rfl λst=>?_;rotate_left
 replace hl:=zdn hl
 obtain⟨⟨k1,n⟩,k2⟩:=hl;refine pF func49 rfl λst=>?_
 repeat' first|apply wZ;rfl|constructor|apply hd|show(_:PV)=_;(exfalso;grind);done|apply wY;rfl|intro h;simp at h
 refine aC (X:={x:Nat//x<=a.c.length/\∀j (h:j<x) (d:j<a.c.length) (f:j<b.c.length),a.c[j]=b.c[j]}) (λi=>((((St.nil 47 st).var 2 96 (a.z)).var 3 96 (b.z)).pv 5 (vi (i.1:Nat)))) (λi=>a.c.length-i.1) ⟨0,by omega,λ_ h=>absurd h (Nat.not_lt_zero _)⟩ ?_ λi=>?_;rotate_left;have⟨i,hi,g⟩:=i;dsimp only;by_cases k:a.c.length<=i;have e:decide (a=b)=true:=zdt ((Ln.ext_iff _ _).2 ⟨k1,List.ext_getElem n λj d f=>g j (by omega) d f,k2⟩);rotate_left;have d:i<a.c.length:=by omega
 have f:i<b.c.length:=by omega
 have l:¬a.c[i]=b.c[i]->decide (a=b)=false:=λh=>zdj λq=>h (by subst q;rfl);have m:a.c[i]=b.c[i]->∀j (h:j<i+1) (d:j<a.c.length) (f:j<b.c.length),a.c[j]=b.c[j]:=λh j hj d f=>by
  rcases zls.1 hj with q|q
  ·exact g j q d f
  ·subst q;exact h
 have hs:=aEO a.c[i] b.c[i] (hp _ (zgm d))
 all_goals (repeat' first|refine⟨⟨i+1,by omega,m ‹_›⟩,?_,?_⟩|exact(hx ‹_›).elim|apply wZ;rfl|apply KR.mk;kernel_rfl|omega|constructor|apply hs|show(_:PV)=_;rw[l (by grind)];done|show(_:PV)=_;rw[e];done|simp<;>omega|apply wY;rfl|apply wI;rfl|apply gE;omega|intro h;simp at h|intro h)
theorem iL(b:Bs)(k:Int):qf 47 [.agg (bsC b),vi k] (.seq ((aF b k).map Ln.z)):=by
 rcases hok:okT b k with _|_
 have e:aF b k=[]:=by unfold aF;rw[hok];rfl
 rw[e];unfold okT at hok;simp only[Bool.and_eq_false_iff,zdf]at hok;rotate_left;obtain⟨q,rfl,hq⟩:∃q:Nat,k=q/\q<b.length:=by
  unfold okT at hok;simp only[zba,zde]at hok;exact⟨k.toNat,by omega,by omega⟩
 have a:aF b q=b[q].l:=by unfold aF;rw[zp hok];simp[hq]
 rw[a]
 all_goals (refine pF func47 rfl λst=>?_;repeat'(first|refine Cn.any ?_;(first|refine⟨_,_,_,rfl,zwr _,zsr _,?_,rfl⟩;rfl|refine⟨_,_,_,rfl,zwf _,zsr _,?_,rfl⟩;rfl)|apply wZ;rfl|constructor|apply wI;rfl|apply gE;omega|simp<;>omega|intro h;simp at h;omega|intro h;simp at h))
def oW(c:Cl):Bool:=decide (c.p.length<=40)&&decide (c.val.s.size<=400)
def gW(a:Ln):Bool:=a.c.all oW&&(decide (a.c.length<=20)&&decide (a.b.length<=60))
theorem ajR(a:Ln)(hl:a.c.length<4611686018427387904):qf 54 [.agg a.z] (vb (gW a)):=by
 refine pF func54 rfl λst=>?_
 repeat' first|apply wZ;rfl|constructor
 refine aC (X:={x:Nat//x<=a.c.length/\∀j (h:j<x) (b:j<a.c.length),oW a.c[j]=true}) (λi=>(((St.nil 40 st).var 1 96 (a.z)).pv 3 (vi (i.1:Nat)))) (λi=>a.c.length-i.1) ⟨0,by omega,λ_ h=>absurd h (Nat.not_lt_zero _)⟩ ?_ λi=>?_;rotate_left;have⟨i,hi,f⟩:=i;dsimp only;by_cases k:a.c.length<=i;have e:a.c.all oW=true:=zal.2 λc hc=>by
  obtain⟨j,hj,rfl⟩:=zgo hc
  exact f j (by omega) hj
 unfold gW;rw[e,Bool.true_and];have l:(decide (((a.c.map Cl.z).length:Int)<=20)&&decide (((a.b.map Dt.z).length:Int)<=60))=(decide (a.c.length<=20)&&decide (a.b.length<=60)):=by
  rw[zbi];simp only[zba,zde,zql];omega
 rotate_left;have b:i<a.c.length:=by omega
 have d:oW a.c[i]=false->gW a=false:=λh=>by
  unfold gW
  have:a.c.all oW=false:=by
   rw[<-znt,zal];intro q;rw[q _ (zgm b)]at h;cases h
  rw[this];rfl
 have g:oW a.c[i]=true->∀j (h:j<i+1) (b:j<a.c.length),oW a.c[j]=true:=λh j hj b=>by
  rcases zls.1 hj with q|q
  ·exact f j q b
  ·subst q;exact h
 unfold oW at d g
 all_goals (repeat' first|refine⟨⟨i+1,by omega,g (by simp;omega)⟩,?_,?_⟩|apply wZ;rfl|omega|constructor|show(_:PV)=_;rw[d (by simp;omega)];done|apply wI;rfl|apply gE;omega|show(_:PV)=_;rw[l];done|simp<;>omega|intro h;simp at h)
def bJ(l:List Ln)(k:Int):Option Ln:=l.find? λx=>decide (x.key=k)
def aLH :Option Ln->PV
 |some x=> .tup [.agg x.z,vb true]
 |none=> .tup [.agg Ln.zero.z,vb false]
theorem aqI{f:α->Bool}{l:List α}(h:i<l.length)(hf:f l[i]=true)(hn:∀j (h:j<i) (h2:j<l.length),f l[j]=false):l.find? f=some l[i]:=
 List.find?_eq_some_iff_getElem.2 ⟨hf,i,h,rfl,λj hj=>by grind⟩
theorem aIJ{f:α->Bool}{l:List α}(h:l.length<=i)(hn:∀j (h:j<i) (h2:j<l.length),f l[j]=false):l.find? f=none:=
 List.find?_eq_none.2 λx hx=>by
  obtain⟨j,hj,rfl⟩:=zgo hx
  grind
theorem mY(b:Bs)(k key:Int)(hl:(aF b k).length<1000000000000):qf 48 [.agg (bsC b),vi k,vi key] (aLH (bJ (aF b k) key)):=by
 have hL:=iL b k;generalize aF b k=l at*;refine pF func48 rfl λst=>?_
 repeat' first|apply wZ;rfl|constructor|apply hL|apply wY;rfl
 refine aC (X:={x:Nat//x<=l.length/\∀j (h:j<x) (a:j<l.length),decide (l[j].key=key)=false}) (λi=>(((((St.nil 31 st).pv 2 (vi key)).var 6 96 ([vi 0, .val (.slice none 0 0), .val (.slice none 0 0)])).pv 8 (.seq (l.map Ln.z))).pv 9 (vi (i.1:Nat)))) (λi=>l.length-i.1) ⟨0,by omega,λ_ h=>absurd h (Nat.not_lt_zero _)⟩ ?_ λi=>?_;rotate_left;have⟨i,hi,d⟩:=i;dsimp only;by_cases c:l.length<=i;rw[show bJ l key=none from aIJ c d];rotate_left;have a:i<l.length:=by omega
 by_cases hk:l[i].key=key;rw[show bJ l key=some l[i]from aqI a (zdt hk) d];rotate_left;have f:∀j (h:j<i+1) (a:j<l.length),decide (l[j].key=key)=false:=λj hj a=>by
  rcases zls.1 hj with q|q
  ·exact d j q a
  ·subst q;exact zdj hk
 all_goals (repeat' first|refine⟨⟨i+1,by omega,f⟩,?_,?_⟩|refine Cn.any ?_;(first|refine⟨_,_,_,rfl,zwr _,zsr _,?_,rfl⟩;rfl|refine⟨_,_,_,rfl,zwf _,zsr _,?_,rfl⟩;rfl)|apply wZ;rfl|omega|constructor|apply wI;rfl|apply gE;omega|simp<;>omega|intro h;simp at h|intro h)
theorem azY(l:List Ln)(k:Int):(∃j:Nat,∃h:j<l.length,atP l k=(((j:Nat):Int),true)/\bJ l k=some l[j])\/((atP l k).2=false/\bJ l k=none):=by
 unfold atP bJ;cases h:l.findIdx? λx:Ln=>decide (x.key=k)with
 |some j=>
  left;have⟨hj,hf,hn⟩:=zfi.1 h;refine⟨j,hj,?_,aqI hj hf λq hq a=>by grind⟩;have e:dJ (λx:Ln=>decide (x.key=k)) l=j:=by unfold dJ;rw[h]
  grind
 |none=>
  have e:dJ (λx:Ln=>decide (x.key=k)) l= -1:=by unfold dJ;rw[h]
  grind
theorem zV(b:Bs)(k key:Int)(f:∀d∈b,d.l.length<100000000000):qf 38 [.agg (bsC b),vi k,vi key] (aLH (bJ (aF b k) key)):=by
 rcases hok:okT b k with _|_
 have ho:=aB8 b k hok;have ha:=aqA [] key (by simp);rw[aLP]at ha;have e:aF b k=[]:=by unfold aF;rw[hok];rfl
 rw[e,show bJ [] key=none from rfl];rotate_left;obtain⟨q,rfl,hq⟩:∃q:Nat,k=q/\q<b.length:=by
  unfold okT at hok;simp only[zba,zde]at hok;exact⟨k.toNat,by omega,by omega⟩
 have ho:=ahU b q hq;have i:=f b[q] (zgm hq);have g:aF b q=b[q].l:=by unfold aF;rw[zp hok];simp[hq]
 rw[g];generalize h:b[q].l=L at*;have ha:=aqA L key (by omega);rcases azY L key with⟨j,hj,a,c⟩|⟨a,c⟩
 rw[a]at ha;rw[c];rotate_left;rw[a]at ha;rw[c]
 all_goals (refine pF func38 rfl λst=>?_;repeat'(first|refine Cn.any ?_;refine⟨_,_,_,rfl,zwf _,zsr _,?_,rfl⟩;rfl|apply wZ;rfl|constructor|(first|apply ho|apply ha)|apply wY;rfl|apply wI;rfl|apply gE;omega))
end Go.Proofs.YtigmnfepdlbcpaaGreatDoor
