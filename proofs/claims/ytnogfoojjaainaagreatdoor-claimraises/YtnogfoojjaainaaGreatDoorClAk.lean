import Derived.Test.YtnogfoojjaainaaGreatDoorClAj
import Derived.Test.YtnogfoojjaainaaGreatDoorAbsG
import Derived.Test.YtnogfoojjaainaaGreatDoorClAf
import Derived.Test.YtnogfoojjaainaaGreatDoorClAd
import Derived.Test.YtnogfoojjaainaaGreatDoorClAb
set_option linter.unusedSimpArgs false
set_option linter.unusedVariables false
namespace Go.Proofs.YtnogfoojjaainaaGreatDoor
open Go Go.Abs
section
attribute [local irreducible] Ev PWp
set_option maxRecDepth 10000
set_option maxHeartbeats 4000000
theorem aoT{w:Wr}{s:Sc}:∀{l:List Ot}{b:Bs}{M:List P4}{o:Ot},(bD w s b l).2=0->kD w s b (l++[o]) M=nE s (bD w s b l).1 (bX w s (bD w s b l).1 o).1 (kD w s b l M)
 |[],_,_,_,_=>rfl
 |p::r,b,M,o,h=>by
  obtain⟨_,e⟩:=uZ h
  show kD w s (bX w s b p).1 (r++[o]) _=_
  rw[aoT (e▸h),e];rfl
theorem aIx{w:Wr}{s:Sc}{b:Bs}{l:List Ot}{i:Nat}{M:List P4}(hi:i<l.length)(h:(bD w s b (l.take i)).2=0):kD w s b (l.take (i+1)) M=nE s (bD w s b (l.take i)).1 (bX w s (bD w s b (l.take i)).1 l[i]).1 (kD w s b (l.take i) M):=by
 rw[List.take_succ_eq_append_getElem hi,aoT h]
theorem aHb{w:Wr}{s:Sc}{b:Bs}{l:List Ot}(h:(bD w s b l).2=0)(i:Nat):(bD w s b (l.take i)).2=0:=by
 refine Decidable.byContradiction λq=>?_;rw[apF q]at h;exact q h
def Rg.zero :Rg:=⟨0,0,0,0,0,0⟩
theorem axA :Tryz.prog.bytesOf 47=48:=by kernel_rfl
theorem aGz :Tryz.prog.cellsOf 47=6:=by kernel_rfl
def aHO(R:List Rg×Int):PV:= .tup [.seq (R.1.map Rg.cells),vi R.2]
theorem aIe(e:Int):Wk (.tup [.val (.slice none 0 0),vi e]) (aHO ([],e)):=Wk.tup (.cons Wk.nil (.cons (zwr _) .nil))
theorem afJ{st st':aD}(h:StSub st st'){j:Nat}(hj:st' j=none):st j=none:=by
 rcases h j with q|q
 ·exact q
 ·exact q.trans hj
theorem yK{st st':aD}(h:StSub st st'){id:Nat}{a:Option AObj}:StSub (upd st id a) (upd st' id a):=λj=>by
 by_cases e:j=id
 ·subst e;right;rw[aA,aA]
 ·rw[aB e,aB e];exact h j
theorem akC(es:List (P4×Bool))(i:Nat):(aV jY bF es).eraseIdx i=aV jY bF (es.eraseIdx i):=by unfold aV;rw[vA]
theorem avT{es:List (P4×Bool)}{i:Nat}{e:Value×PV}(h:(aV jY bF es)[i]?=some e):∃x,es[i]?=some x/\e=(jY x.1,bF x.2):=by
 unfold aV at h;rw[List.getElem?_map]at h;cases hx:es[i]? with
 |none=>rw[hx]at h;cases h
 |some x=>rw[hx]at h;exact⟨x,rfl,(Option.some.inj h).symm⟩
theorem avC{es:List (P4×Bool)}(h:aV jY bF es=[]):es=[]:=by cases es with
 |nil=>rfl
 |cons x l=>cases h
theorem aaN{α:Type}:∀{l:List α}{i:Nat}{x:α},l[i]?=some x->(x::l.eraseIdx i).Perm l
 |[],_,_,h=>by simp at h
 |a::l,0,x,h=>by simp at h;subst h;exact .refl _
 |a::l,i+1,x,h=>by
  simp only[List.getElem?_cons_succ]at h
  rw[List.eraseIdx_cons_succ]
  exact(List.Perm.swap a x _).trans ((aaN h).cons a)
theorem atU{es:List (P4×Bool)}{out M:List P4}{i:Nat}{x:P4×Bool}(hx:es[i]?=some x)(h:(out++es.map (·.1)).Perm M):((out++[x.1])++(es.eraseIdx i).map (·.1)).Perm M:=by
 refine List.Perm.trans ?_ h;rw[List.append_assoc];refine List.Perm.append_left _ ?_;have:=(aaN hx).map (·.1)
 simpa using this
theorem aAv{st:aD}{id e f:Nat}{a b c o:Option AObj}(k:st id=none)(m:f≠id)(n:f≠e):StSub (upd (upd st e a) f o) (upd (upd (upd (upd (upd st id b) f c) f o) id none) e a):=λj=>by
 by_cases g:j=f
 ·subst g;right;rw[aA,aB n,aB m,aA]
 ·rw[aB g]
  by_cases h:j=e
  ·subst h;right;rw[aA,aA]
  ·rw[aB h,aB h]
   by_cases i:j=id
   ·subst i;left;exact k
   ·right;rw[aB i,aB g,aB g,aB i]
theorem yM{st:aD}{id i g:Nat}{a b c:AObj}(h:upd (upd (upd st id (some a)) i (some b)) i (some c) g=none):st g=none/\g≠i:=by
 have j:∀{f:aD}{x y:Nat}{o:AObj},upd f x (some o) y=none->y≠x/\f y=none:=fun{f x y o} h=>by
  by_cases e:y=x
  ·rw[e,aA]at h;cases h
  ·exact⟨e,by rwa[aB e]at h⟩
 obtain⟨k,m⟩:=j h;obtain⟨b1,b2⟩:=j m;exact⟨(j b2).2,k⟩
theorem aHr(M:List P4):(m4E M).map (·.1)=M:=by unfold m4E;rw[List.map_map];exact List.map_id M
theorem aIH(x:P4)(g:G):Rep g (.agg (p4C x)) (jY x):=by
 unfold Rep;exact⟨acJ x,rfl,aaE g (acJ x)⟩
theorem aKP(w:Wr)(s:Sc)(b:Bs):PF Tryz.prog 10 [.agg (scC s), .agg (bsC b), .seq [], .agg w.who.cells, .seq (w.knew.map I1)] (aHO (ofP w s b [])):=by
 have e:ofP w s b []=([],0):=by unfold ofP;rw[zp (show([]:List Ot).length=0 from rfl)]
 rw[e];refine pF Tryz.func10 rfl λst=>?_
 repeat' first|exact Cn.any ⟨_,_,_,rfl,aIe _,zsr _,rfl,rfl⟩|apply wZ;rfl|show Cn _;constructor
theorem aH7{n:Nat}{w:Wr}{s:Sc}{b:Bs}{l:List Ot}(c:ScK s)(f:OpW n b)(hn:n+l.length<=20)(hk:w.knew.length<1000000000000)(hf:∀o∈l,nF o)(hl:l.length≠0)(h0:(fY w s b l).2≠0):PF Tryz.prog 10 [.agg (scC s), .agg (bsC b), .seq (l.map Ot.cells), .agg w.who.cells, .seq (w.knew.map I1)] (aHO (ofP w s b l)):=by
 have a:=sG c f hn hk hf;have e:ofP w s b l=([],(fY w s b l).2):=by unfold ofP;rw[zn hl,zp h0]
 rw[e];generalize fY w s b l=R at*;obtain⟨B,e⟩:=R;unfold oS at a;dsimp only at a h0⊢;refine pF Tryz.func10 rfl λst=>?_
 repeat' first|exact Cn.any ⟨_,_,_,rfl,aIe _,zsr _,rfl,rfl⟩|apply wZ;rfl|show Cn _;constructor|apply a|apply wY;rfl|omega|simp only[zql];omega|intro h;simp at h|intro h
theorem ayS{s:Sc}(h:bT s=0):aHF s:=⟨by have:=jT h;omega,λk hk=>by
 have:=lH h hk
 rw[getElem!_pos s k hk]
 omega⟩
theorem aiX{s:Sc}{was is:Bs}(b:∀k:Int,(aF was k).length<=200)(e:∀k:Int,(aF is k).length<=200):(sumsP s was is).length<=102400:=by
 unfold sumsP;split
 ·rename_i h
  have a:=(aU.1 h.1).1.1;have:=iK (f:=sumK s was is) (c:=6400) (List.range s.length) λk hk=>by
   have hk:=List.mem_range.1 hk
   unfold sumK
   have:=iK (f:=sumI s was is k) (List.range s[k]!.sums.length) λi _=>xN b e k i
   rw[List.length_range,getElem!_pos s k hk]at this
   have:=(lH a hk).2.2.2.2
   rw[getElem!_pos s k hk]
   omega
  rw[List.length_range]at this;have:=jT a;omega
 ·simp
theorem aEo{n:Nat}{w:Wr}{s:Sc}{b:Bs}{l:List Ot}(v:ScK s)(c:OpW n b)(hn:n+l.length<=20)(hf:∀o∈l,nF o):(ofP w s b l).1.length<=100000000:=by
 unfold ofP;split
 ·simp
 ·split
  ·simp
  ·rename_i u a
   have a:=zdn a;obtain⟨i,k,A,m⟩:=asT a;obtain⟨_,f,p⟩:=fO.1 i;have e:=(aU.1 f).1.1;obtain⟨q,g⟩:=pR p f c hf k;have h:=ajR (ayS e) (w:=w) (M:=[]) c hn hf;have y:(sumsP s b (fY w s b l).1).length<=102400:=by
    rw[m];exact aiX (λj=>by have:=(jX c j).1;omega) λj=>by have:=(jX g j).1;omega
   have z:=List.length_filter_le (λx:S4=>decide (x.2.2.2>0)) (sumsP s b (fY w s b l).1);dsimp only;rw[zla,zql,zql,(eW kW _).length_eq];simp only[List.length_nil]at h;omega
theorem aBd{L:List S4}{i:Nat}(h:i<L.length):(L.take (i+1)).filter (λx=>decide (x.2.2.2>0))=(L.take i).filter (λx=>decide (x.2.2.2>0))++(if L[i].2.2.2>0 then[L[i]]else[]):=by
 rw[List.take_succ_eq_append_getElem h,List.filter_append]
 congr 1
 by_cases e:L[i].2.2.2>0
 ·rw[zp e];simp[e]
 ·rw[zn e];simp[e]
theorem aH2{n:Nat}{w:Wr}{s:Sc}{b:Bs}{l:List Ot}(hK:ScK s)(U:OpW n b)(hn:n+l.length<=20)(hk:w.knew.length<1000000000000)(hf:∀o∈l,nF o)(hl:l.length≠0)(h0:(fY w s b l).2=0):PF Tryz.prog 10 [.agg (scC s), .agg (bsC b), .seq (l.map Ot.cells), .agg w.who.cells, .seq (w.knew.map I1)] (.tup [.seq ((ofP w s b l).1.map Rg.cells),vi 0]):=by
 intro st;have h1:=sG hK U hn hk hf;have hlen:=aEo (w:=w) hK U hn hf;obtain⟨r1,r2,r3,r4⟩:=asT h0;obtain⟨_,r5,r6⟩:=fO.1 r1;obtain⟨f1,f2⟩:=pR r6 r5 U hf r2;have e:(ofP w s b l).1=(yX kW (kD w s b l [])).map rgP++((sumsP s b (bD w s b l).1).filter λx=>decide (x.2.2.2>0)).map rgS:=by unfold ofP;rw[zn hl,zn (by simp[h0]),r4]
 have hx:fY w s b l=((bD w s b l).1,0):=Prod.ext r4 h0;rw[hx]at h1;rw[e]at hlen⊢;have J:=λi=>aHb r2 i;have D:=λ(i:Nat)(hi:i<=l.length)=>pR r6 (l:=l.take i) r5 U (λo ho=>hf o (List.mem_of_mem_take ho)) (J i);have hnd:=aCX (w:=w) (s:=s) (l:=l) (b:=b) (M:=[]) List.nodup_nil;have hsm:∀x∈yX kW (kD w s b l []),akH x:=λx hx=>by
  rw[(eW kW _).mem_iff,alO r6 r5 U hf r2]at hx
  rcases hx with q|q
  ·cases q
  ·exact ahE r6 r5 U hf r2 q
 have hSl:(sumsP s b (bD w s b l).1).length<=102400:=aiX (λj=>by have:=(jX U j).1;omega) (λj=>by have:=(jX f2 j).1;omega);have hsums:=afZ (hK.ck (U.S (by omega)) (by omega)) (hK.ck (f2.S (by omega)) (by omega));have hall:=ajR (ayS (aU.1 r5).1.1) (w:=w) (M:=[]) U hn hf;simp only[List.length_nil]at hall;rw[zla,zql,zql]at hlen;have hlm:(l.map Ot.cells).length=l.length:=zql _;have u:∀i (hi:i<l.length),bX w s (bD w s b (l.take i)).1 l[i]=((bD w s b (l.take (i+1))).1,0):=λi hi=>by
  have q:=ayF hi (J i)
  have q2:=J (i+1)
  by_cases z:(bX w s (bD w s b (l.take i)).1 l[i]).2≠0
  ·rw[zp z]at q;rw[q]at q2;exact absurd q2 z
  ·rw[zn z]at q
   rw[q];exact Prod.ext rfl (zdn z)
 have hdo:∀i (hi:i<l.length),PF Tryz.prog 28 [.agg (scC s), .agg (bsC (bD w s b (l.take i)).1), .agg l[i].cells, .agg w.who.cells, .seq (w.knew.map I1)] (oS ((bD w s b (l.take (i+1))).1,0)):=λi hi=>by
  obtain⟨q1,q2⟩:=D i (by omega)
  rw[zlt,Nat.min_eq_left (by omega)]at q2
  have q:=aEN (w:=w) (o:=l[i]) hK (n:=n+i) ⟨hK.sb,hK.len,q2,by omega,hk,hf _ (zgm hi)⟩
  unfold doP at q
  rw[zp (fO.2 ⟨(fO.1 r1).1,q1,r6⟩),u i hi]at q
  exact q
 have Y:∀i (hi:i<l.length),kD w s b (l.take (i+1)) []=nE s (bD w s b (l.take i)).1 (bD w s b (l.take (i+1))).1 (kD w s b (l.take i) []):=λi hi=>by
  rw[aIx hi (J i),u i hi]
 have O:∀i (hi:i<l.length) (M:List P4) (id:Nat),_:=λi hi M id=>aAH (D i (by omega)).1 (D (i+1) (by omega)).1 ((D i (by omega)).2.S (by rw[zlt];omega)) ((D (i+1) (by omega)).2.S (by rw[zlt];omega)) M st id;clear u D J;have Z:(bD w s b (l.take l.length)).1=(bD w s b l).1:=by rw[List.take_length]
 have hfa:kD w s b (l.take l.length) []=kD w s b l []:=by rw[List.take_length]
 have hl2:¬l=[]:=λe=>hl (by rw[e];rfl);refine pC Tryz.func10 rfl ?_
 focus(repeat' first|apply mkM (enc:=jY) (f:=bF);rfl;intro idm hidm|apply Cn.cf;focus((apply h1);done)|apply wZ;rfl|show Cn _;constructor|apply wY;rfl|omega|intro h;simp at h)
 have H:st idm=none:=hidm;clear hidm;refine aC (X:={x:Nat//x<=l.length}) (λi=>(((((((((((St.nil 126 (upd st idm (some (m4M (kD w s b (l.take i.1) []))))).pv 4 (.seq (w.knew.map I1))).var 5 24 (scC s)).var 6 27 (bsC b)).var 8 36 (w.who.cells)).var 12 27 (bsC (bD w s b l).1)).pv 14 (.mref idm)).var 15 27 (bsC (bD w s b (l.take i.1)).1)).pv 44 (.seq (l.map Ot.cells))).pv 45 (vi ((l.map Ot.cells).length:Nat))).pv 46 (vi (i.1:Nat)))) (λi=>l.length-i.1) ⟨0,by omega⟩ ?_ λi=>?_
 ·repeat' first|exact .any (zsr _)|show Cn _;constructor|exact rfl
 obtain⟨i,hi⟩:=i;dsimp only;by_cases hend:¬l.length<=i
 ·have hil:i<l.length:=by omega
  have hd:=hdo i hil;have ht:=O i hil (kD w s b (l.take i) []) idm;rw[<-Y i hil]at ht
  repeat' first|apply Cn.cf;focus((apply hd);done)|apply cP;rfl;(apply ht);rintro _ st' (rfl)|refine⟨⟨i+1,by omega⟩,?_,?_⟩;(dsimp only)|show Cn (.t _ _);exact Cn.t0|apply wZ;rfl|show Cn _;constructor|exact rfl|apply wY;rfl|apply wI;rfl|apply gE;omega|omega|simp only[zql];omega|intro h;simp at h
 obtain rfl:i=l.length:=by omega
 rw[hfa,Z];clear hdo Y O Z hfa;generalize(bD w s b l).1=B at*;generalize hM:kD w s b l []=M at*
 focus(repeat' first|apply pS 66;rfl;exact aA _ _ _|apply aFk pk;(iterate 5 rfl);intro W hit|apply wZ;rfl|show Cn _;constructor|omega|intro h;simp at h)
 have k:StSub st (upd (upd st idm (some (m4M M))) idm none):=aR (aR (zsr _) H) H;have hit0:st W=none:=afJ k hit;refine eC 20 87 4 rfl rfl rfl λid hid=>?_;have v:upd (upd (upd st idm (some (m4M M))) idm none) W (some (.iter none (aV jY bF (m4E M)))) id=none:=hid;have p:id≠W:=λe=>by rw[e,aA]at v;cases v
 have c:st id=none:=afJ k (by rwa[aB p]at v);have hsub:StSub (upd (upd st id (some (.arr 87 (([]:List P4).map p4C)))) W (some (.iter none (aV jY bF (m4E M))))) (upd (upd (upd (upd st idm (some (m4M M))) idm none) W (some (.iter none (aV jY bF (m4E M))))) id (some (.arr 87 []))):=by
  rw[eR p];exact yK (yK k)
 have I:(([]:List P4)++(m4E M).map (·.1)).Perm M:=by rw[List.nil_append,aHr]
 clear k hit hid v;refine aC (X:={x:List (P4×Bool)×List P4×Nat×Option (Value×PV)//st x.2.2.1=none/\x.2.2.1≠W/\(x.2.1++x.1.map (·.1)).Perm M}) (λq=>((((((St.nil 126 (upd (upd st q.1.2.2.1 (some (.arr 87 (q.1.2.1.map p4C)))) W (some (.iter q.1.2.2.2 (aV jY bF q.1.1))))).var 5 24 (scC s)).var 6 27 (bsC b)).var 12 27 (bsC B)).pv 20 (.vec q.1.2.2.1 4 0 q.1.2.1.length)).pv 67 (.ref W 0))) (λq=>q.1.1.length) ⟨(m4E M,[],id,none),c,p,I⟩ ?_ λq=>?_
 ·dsimp only
  repeat' first|exact .any hsub|show Cn _;constructor|exact rfl
 clear c p hsub I;obtain⟨⟨T,out,id,cur⟩,c,p,hp⟩:=q;dsimp only at c p hp;dsimp only;have hlo:out.length<=1000000000:=by have:=hp.length_eq;rw[zla]at this;omega
 repeat' first|apply wZ;rfl|show Cn _;constructor|apply aH9;rfl;exact aA _ _ _;rfl;rfl;rfl;intro hleft;rotate_left;intro j e he;rotate_left
 ·obtain rfl:=avC hleft
  rw[List.map_nil,List.append_nil]at hp;have hlr:∀R:List P4,R.Perm out->(R.Pairwise λx y=>kW y x=false)->R=yX kW M:=λR h1 h2=>aAm aEe hnd (h1.trans hp) h2
  focus(repeat' first|apply cP;rfl;(apply(aCv out ((aB p).trans (aA _ _ _)) rfl (by omega)));rintro _ st' (⟨R,rfl,hR1,hR2⟩)|apply wZ;rfl|show Cn _;constructor|apply wY;rfl)
  have hR:=hlr R hR1 hR2;have hRl:(R.map p4C).length=out.length:=by rw[zql];exact hR1.length_eq
  have hol:out.length=(yX kW M).length:=by rw[<-hR];exact hR1.length_eq.symm
  have E:StSub st (upd (upd (upd (upd st id (some (.arr 87 (out.map p4C)))) W (some (.iter cur (aV jY bF [])))) id (some (.arr 87 (R.map p4C)))) id none):=aR (aR (aR (aR (zsr _) c) hit0) c) c;refine aaT 78 rfl (aA _ _ _) aF8 hRl ?_;refine eC 22 47 6 rfl rfl rfl λid2 m=>?_;have G:st id2=none:=afJ E m;have N:=yK E (id:=id2) (a:=some (.arr 47 []));clear E m hlr hR1 hR2 hRl;subst hR;generalize yX kW M=S at*;refine aC (X:={x:Nat×Nat//x.1<=S.length/\st x.2=none}) (λq=>((((((((St.nil 126 (upd st q.1.2 (some (.arr 47 (((S.take q.1.1).map rgP).map Rg.cells))))).var 5 24 (scC s)).var 6 27 (bsC b)).var 12 27 (bsC B)).pv 22 (.vec q.1.2 6 0 ((S.take q.1.1).map rgP).length)).pv 78 (.seq (S.map p4C))).pv 79 (vi (out.length:Nat))).pv 80 (vi (q.1.1:Nat)))) (λq=>S.length-q.1.1) ⟨(0,id2),by simp,G⟩ ?_ λq=>?_
  ·dsimp only
   repeat' first|exact .any N|show Cn _;constructor|exact rfl
  clear N G;obtain⟨⟨q,id2⟩,hq,m⟩:=q;simp only at hq m;dsimp only;by_cases hend2:S.length<=q
  ·obtain rfl:q=S.length:=by omega
   rw[List.take_length];generalize hL:sumsP s b B=L at*;have hAm:(S.map rgP).length=S.length:=zql _;generalize S.map rgP=A at*;have hAl:A.length<=100000000:=by omega
   have hfl:=λj=>List.length_filter_le (λx:S4=>decide (x.2.2.2>0)) (L.take j)
   focus(repeat' first|apply Cn.cf;focus((apply hsums);done)|apply wZ;rfl|show Cn _;constructor|apply wY;rfl|omega|intro h;simp at h)
   refine aC (X:={x:Nat×Nat//x.1<=L.length/\st x.2=none}) (λz=>(((((St.nil 126 (upd st z.1.2 (some (.arr 47 ((A++((L.take z.1.1).filter λx=>decide (x.2.2.2>0)).map rgS).map Rg.cells))))).pv 22 (.vec z.1.2 6 0 (A++((L.take z.1.1).filter λx=>decide (x.2.2.2>0)).map rgS).length)).pv 103 (.seq (L.map s4C))).pv 104 (vi ((L.map s4C).length:Nat))).pv 105 (vi (z.1.1:Nat)))) (λz=>L.length-z.1.1) ⟨(0,id2),by simp,m⟩ ?_ λz=>?_
   ·dsimp only
    rw[show A++((L.take 0).filter λx=>decide (x.2.2.2>0)).map rgS=A from by simp]
    repeat' first|show Cn (.t _ _);exact Cn.t0|show Cn _;constructor|exact rfl
   obtain⟨⟨z,id3⟩,hz,C⟩:=z;simp only at hz C;dsimp only;have hfz:=hfl z;by_cases hend3:L.length<=z
   ·obtain rfl:z=L.length:=by omega
    rw[List.take_length]
    repeat' first|refine aaT 10 rfl (aA _ _ _) aGz (by simp) ?_;refine abJ ?_;exact Cn.any ⟨_,_,st,rfl,zwr _,aR (aR (zsr _) C) C,rfl,rfl⟩|apply wZ;rfl|show Cn _;constructor|simp only[zql];omega|intro h;simp at h
   have hzl:z<L.length:=by omega
   have V:=aBd hzl;have hfl2:((L.take z).filter λx=>decide (x.2.2.2>0)).length<=100000000:=by
    have:=((List.take_sublist z L).filter λx:S4=>decide (x.2.2.2>0)).length_le;omega
   by_cases I:L[z].2.2.2>0
   ·rw[zp I]at V
    generalize(L.take z).filter (λx=>decide (x.2.2.2>0))=F at*;have hft2:A++((L.take (z+1)).filter λx=>decide (x.2.2.2>0)).map rgS=A++F.map rgS++[rgS L[z]]:=by rw[V,List.map_append,<-List.append_assoc];rfl
    have hAF:(A++F.map rgS).length=A.length+F.length:=by simp
    repeat' first|refine⟨⟨(z+1,Q),by simp only;omega,cG g⟩,?_,?_⟩;(dsimp only;rw[hft2])|show Cn (.t _ _);exact .any (bI ‹_›)|apply wZ;rfl|show Cn _;constructor|exact rfl|show _=_;(simp;omega)|apply apV pk (f:=Rg.cells) [rgS L[z]] 48;(iterate 9 rfl);(exact aA _ _ _);(omega);exactλ_=>rfl;exactλ_=>rfl;exact axA;(focus(simp;omega));(focus(simp;omega));rfl;intro Q g|apply iD pk 0;(iterate 5 rfl);(focus repeat' constructor);rfl;(intro _;rfl);(intro _;omega);rfl|apply iD pk 1;(iterate 5 rfl);(focus repeat' constructor);rfl;(intro _;rfl);(intro _;omega);rfl|apply iD pk 2;(iterate 5 rfl);(focus repeat' constructor);rfl;(intro _;rfl);(intro _;omega);rfl|apply iD pk 3;(iterate 5 rfl);(focus repeat' constructor);rfl;(intro _;rfl);(intro _;omega);rfl|apply wI;rfl|apply gE;omega|omega|simp only[zql];omega|intro h;simp at h
   ·rw[zn I,List.append_nil]at V
    repeat' first|refine⟨⟨(z+1,id3),by simp only;omega,C⟩,?_,?_⟩;(dsimp only;rw[V])|apply wZ;rfl|show Cn _;constructor|exact rfl|apply iD pk 3;(iterate 5 rfl);(focus repeat' constructor);rfl;(intro _;rfl);(intro _;omega);rfl|apply wI;rfl|apply gE;omega|omega|simp only[zql];omega|intro h;simp at h
  have hql:q<S.length:=by omega
  have hup:(S.take (q+1)).map rgP=(S.take q).map rgP++[rgP S[q]]:=by rw[List.take_succ_eq_append_getElem hql,List.map_append];rfl
  obtain⟨n1,n2⟩:=hsm _ (zgm hql);have hml:((S.take q).map rgP).length=q:=by rw[zql,zlt];omega
  repeat' first|refine⟨⟨(q+1,Q),by simp only;omega,cG g⟩,?_,?_⟩;(dsimp only;rw[hup])|show Cn (.t _ _);exact .any (bI ‹_›)|apply wZ;rfl|show Cn _;constructor|exact rfl|show _=_;(simp)|apply apV pk (f:=Rg.cells) [rgP S[q]] 48;(iterate 9 rfl);(exact aA _ _ _);(omega);exactλ_=>rfl;exactλ_=>rfl;exact axA;(focus(simp;omega));(focus(simp;omega));rfl;intro Q g|apply iD pk 0;(iterate 5 rfl);(focus repeat' constructor);rfl;(intro _;rfl);(intro _;omega);rfl|apply iD pk 1;(iterate 5 rfl);(focus repeat' constructor);rfl;(intro _;rfl);(intro _;omega);rfl|apply iD pk 2;(iterate 5 rfl);(focus repeat' constructor);rfl;(intro _;rfl);(intro _;omega);rfl|apply iD pk 3;(iterate 5 rfl);(focus repeat' constructor);rfl;(intro _;rfl);(intro _;omega);rfl|apply wI;rfl|apply gE;omega|omega|simp only[zql];omega|intro h;simp at h
 ·obtain⟨x,hx,rfl⟩:=avT he
  have hp2:=atU hx hp;have hlt:(T.eraseIdx j).length<T.length:=by
   have:=(zge.1 hx).1;rw[List.length_eraseIdx_of_lt this];omega
  have hit2:=Ne.symm p;rw[akC];have hkey:=aIH x.1
  repeat' first|refine⟨⟨(T.eraseIdx j,out++[x.1],Q,some (jY x.1,bF x.2)),(yM g).1,(yM g).2,hp2⟩,?_,?_⟩;(dsimp only)|show Cn (.s _ (St.nil _ _));refine .any ?_;exact Sub.nil _ _ _ (aAv c hit2 (Ne.symm (yM g).2)) rfl|apply wZ;rfl|show Cn _;constructor|exact rfl|show _=_;(simp;done)|apply apV pk (f:=p4C) [x.1] 32;(iterate 9 rfl);(focus((repeat (first|exact aA _ _ _|refine(aB ‹_›).trans ?_));done));(omega);exactλ_=>rfl;exactλ_=>rfl;exact aG5;(focus(simp;omega));(focus(simp;omega));rfl;intro Q g|apply aEE;rfl;rfl;exact aA _ _ _;exact hkey;rotate_left;rfl;rfl|omega
end
section
attribute [local irreducible] Ev PWp
set_option maxRecDepth 10000
set_option maxHeartbeats 4000000
theorem awT(s:Sc)(b:Bs)(l:List Ot)(kn:List Int)(hs:ScG s)(hb:BsB b)(hl:l.length<200000000000000)(a:∀o∈l,o.row.length<200000000000000):PF Tryz.prog 9 [.agg (scC s), .agg (bsC b), .seq (l.map Ot.cells), .seq (kn.map I1)] (vb ((fewC s b&&(decide ((l.length:Int)<=12)&&l.all gY))&&decide ((kn.length:Int)<=80))):=by
 have c:=aBA s b hs.l hs.b hs.k hb;have e:=alV l 12 hl a;generalize fewC s b=F at*;generalize(decide ((l.length:Int)<=12)&&l.all gY)=G at*;refine pF Tryz.func9 rfl λst=>?_
 repeat' first|apply wZ;rfl|show Cn _;constructor|exact rfl|(first|apply c|apply e)|show(_:PV)=_;(simp;done);done|apply wY;rfl
structure Goes (w:Wr) (s:Sc) (b:Bs) (l:List Ot):Prop where
 may:qK w=true
 was:bC T.rightP s b=true
 fold:(bD w s b l).2=0
 eq:(fY w s b l).1=(bD w s b l).1
 is:bC T.rightP s (bD w s b l).1=true
 size:OpW l.length (bD w s b l).1
theorem aFA{w:Wr}{s:Sc}{b:Bs}{l:List Ot}(i:OpW 0 b)(hf:∀o∈l,nF o)(h:(fY w s b l).2=0):Goes w s b l:=by
 obtain⟨j,a,m,k⟩:=asT h;obtain⟨_,c,e⟩:=fO.1 j;obtain⟨f,g⟩:=pR e c i hf a;exact⟨e,c,a,k,f,by simpa using g⟩
section
variable(hA:PF Tryz.prog 6 [] (vb (true)))
include hA
end
end
section
attribute [local irreducible] Ev PWp
set_option maxRecDepth 10000
set_option maxHeartbeats 4000000
def cxP :Co:=⟨⟨#[112]⟩,0,1,true⟩
def cxU :Co:=⟨⟨#[117]⟩,0,1,false⟩
def cxN :Co:=⟨⟨#[110]⟩,0,1,false⟩
def cxA :Tb:=⟨⟨#[97]⟩,[colId],[],[],[],[]⟩
def cxB :Tb:=⟨⟨#[98]⟩,[colId,cxP,cxU,cxN],[2],[],[⟨1,0,1⟩],[⟨3,1,9⟩]⟩
def cxS :Sc:=[cxA,cxB]
def aIu :List PV:=[.seq [[.val (.string ⟨#[97]⟩), .seq [colId.cells],zI,zI,zI,zI],[.val (.string ⟨#[98]⟩), .seq ([colId,cxP,cxU,cxN].map Co.cells), .seq [[vi 2]],zI, .seq [[vi 1,vi 0,vi 1]], .seq [[vi 3,vi 1,vi 9]]]]]
theorem aC1 :Wk (.agg aIu) (.agg (scC cxS)):=
 Wk.agg (.cons (wk2 (.cons (zwr _) (.cons (zwr _) (.cons Wk.nil (.cons Wk.nil (.cons Wk.nil (.cons Wk.nil .nil)))))) (.cons (zwr _) (.cons (zwr _) (.cons (zwr _) (.cons Wk.nil (.cons (zwr _) (.cons (zwr _) .nil))))))) .nil)
theorem lZ(n:Int):PF Tryz.prog 17 [vi n] (.agg (nV n).cells):=by
 refine pF Tryz.func17 rfl λst=>?_
 repeat' first|apply wZ;rfl|show Cn _;constructor|exact rfl
def cxC(n:Int):Cl:=⟨0,nV n,[]⟩
def cxL :Ln:=⟨3,[cxC 3],[]⟩
def aKz :List PV:=[vi 3, .seq [[vi 0,vi 1,vi 3,vs e0,zI]],zI]
theorem aJr :Wk (.agg aKz) (.agg cxL.cells):=Wk.agg (.cons (zwr _) (.cons (wk1 (.cons (zwr _) (.cons (zwr _) (.cons (zwr _) (.cons (zwr _) (.cons Wk.nil .nil)))))) (.cons Wk.nil .nil)))
def cx0 :Bs:=[⟨[cxL]⟩,⟨[]⟩]
theorem apD :PF Tryz.prog 16 [] (.tup [.agg (scC cxS), .agg (bsC cx0)]):=by
 have a:PF Tryz.prog 41 [.agg aIu] (.agg (bsC (aGo cxS))):=λst=>PC.wkArgs (.cons aC1 .nil) (aFs cxS (by decide) st);have b:=lZ 3;have c:PF Tryz.prog 40 [.agg (bsC (aGo cxS)),vi 0, .agg aKz] (.agg (bsC cx0)):=λst=>PC.wkArgs (.cons (zwr _) (.cons (zwr _) (.cons aJr .nil))) (acH (aGo cxS) 0 cxL (by decide) (λd hd=>by
  have hd:d∈[(⟨[]⟩:Da),⟨[]⟩]:=hd
  simp only[zmc,List.not_mem_nil,or_false,or_self]at hd
  subst hd;decide) st)
 have hw:Wk (.tup [.agg aIu, .agg (bsC cx0)]) (.tup [.agg (scC cxS), .agg (bsC cx0)]):=Wk.tup (.cons aC1 (.cons (zwr _) .nil));refine pF Tryz.func16 rfl λst=>?_
 repeat' first|apply afB 5;rfl;rfl|exact Cn.any ⟨_,_,_,rfl,hw,zsr _,rfl,rfl⟩|apply wDO pk [0,1,2,3,4,5,6,7,8,9] [1] [] [1] [];rfl;rfl;kernel_rfl;rfl;rfl|apply Cn.cf;focus(((first|apply a|apply b|apply c));done)|apply wZ;rfl|show Cn _;constructor|apply ldZ pk;iterate 4 rfl|apply wY;rfl
def cxO :Ot:=⟨1,1,0,0,[nV 5,nV 3,nV 8,nV 4],Vl.zero,Dt.zero,0⟩
def cxD :Ot:=⟨8,0,9,0,[],Vl.zero,Dt.zero,0⟩
def aK1 :List PV:=[vi 8,vi 0,vi 9,vi 0,zI,vi 0,vi 0,vs e0,vi 0,vi 0,vi 0]
theorem aII :WkL aK1 cxD.cells:= .cons (zwr _) (.cons (zwr _) (.cons (zwr _) (.cons (zwr _) (.cons Wk.nil (.cons (zwr _) (.cons (zwr _) (.cons (zwr _) (.cons (zwr _) (.cons (zwr _) (.cons (zwr _) .nil))))))))))
def cxW :Wr:=⟨⟨1,1,1⟩,[]⟩
def cxM :Ln:=⟨5,[cxC 5,cxC 3,cxC 8,cxC 4],[⟨1,1⟩]⟩
def cx1 :Bs:=[⟨[cxL]⟩,⟨[cxM]⟩]
theorem aK6 :ScB cxS:=λt ht=>by
 simp only[cxS,zmc,List.not_mem_nil,or_false]at ht
 rcases ht with rfl|rfl<;>constructor<;>simp[cxA,cxB]
theorem cxS_K :ScK cxS:=⟨aK6,by decide,λt ht=>by
 simp only[cxS,zmc,List.not_mem_nil,or_false]at ht
 rcases ht with rfl|rfl<;>decide,λt ht c hc=>by
 simp only[cxS,zmc,List.not_mem_nil,or_false]at ht
 rcases ht with rfl|rfl<;>cases hc⟩
theorem azV :rightC cxS=0:=by
 unfold rightC;rw[zp (by kernel_rfl)];rfl
theorem aG3 :bC T.rightP cxS cx0=true:=by kernel_rfl
theorem aIU :bC T.rightP cxS cx1=true:=by kernel_rfl
theorem aHV(b:Bs)(h:bC T.rightP cxS b=true):mayC cxS b=true:=by unfold mayC;rw[azV,h];rfl
theorem aK3 :rightW cxW cxS cx0=true:=fO.2 ⟨azV,aG3,by kernel_rfl⟩
theorem aI2 :bD cxW cxS cx0 [cxO]=(cx1,0):=by kernel_rfl
theorem aF5 :bD cxW cxS cx0 [cxD]=([],4):=by kernel_rfl
theorem aKC :whyC cxS cx1=0:=by
 unfold whyC;rw[aHV _ aIU,zp rfl];have h0:exR cxA=λ_=>0:=rfl;have b:exR cxB=λ_=>0:=rfl;show eE (λk:Nat=>ckT exR cx1 cxS[k]! (cT bL cx1 k)) [0,1]=0;rw[sV,sV];have e0:ckT exR cx1 cxS[0]! (cT bL cx1 (0:Nat))=0:=by
  show ckT exR cx1 cxA _=0;unfold ckT;rw[h0]
  kernel_rfl
 have a:ckT exR cx1 cxS[1]! (cT bL cx1 (1:Nat))=0:=by
  show ckT exR cx1 cxB _=0;unfold ckT;rw[b]
  kernel_rfl
 rw[e0,a];rfl
theorem aEc :fY cxW cxS cx0 [cxO]=(cx1,0):=by
 unfold fY;rw[aK3,zn (by simp),zn (by decide),aI2,zn (by simp),aKC,zn (by simp)]
theorem aEF :fY cxW cxS cx0 [cxD]=([],4):=by
 unfold fY;rw[aK3,zn (by simp),zn (by decide),aF5,zp (by simp)]
theorem cx0W :OpW 0 cx0:=⟨by decide,λd hd=>by
 have hd:d∈[(⟨[cxL]⟩:Da),⟨[]⟩]:=hd
 simp only[zmc,List.not_mem_nil,or_false]at hd
 rcases hd with rfl|rfl
 ·refine⟨by decide,λl hl=>?_⟩
  have hl:l∈[cxL]:=hl;rw[zms.1 hl];unfold LnW
  decide
 ·exact⟨by decide,λl hl=>by cases hl⟩⟩
theorem cx1W :OpW 1 cx1:=by
 have h:=(yJ (w:=cxW) (s:=cxS) (b:=cx0) (o:=cxO) (k:=0) (by kernel_rfl) aG3 cx0W (yF.1 (by kernel_rfl)) (by kernel_rfl)).2;rwa[show(bX cxW cxS cx0 cxO).1=cx1 from by kernel_rfl]at h
theorem cxT(b:Bs)(hb:bC T.rightP cxS b=true):totC cxS b (1:Nat) (0:Nat) 3=jL ⟨3,1,9⟩ 3 (cT bL b (1:Nat)):=by
 unfold totC;rw[dif_pos ⟨aHV b hb,by decide,by decide⟩];rfl
theorem aDA :sumsP cxS cx0 cx1=[(1,0,3,4)]:=by
 unfold sumsP;rw[zp ⟨aG3,aIU⟩];show sumK cxS cx0 cx1 0++(sumK cxS cx0 cx1 1++[])=_;have e0:sumK cxS cx0 cx1 0=[]:=rfl;have a:sumK cxS cx0 cx1 1=sumI cxS cx0 cx1 1 0++[]:=rfl;have b:sumI cxS cx0 cx1 1 0=[(3:Int)].filterMap (moreS cxS cx0 cx1 1 0):=by
  unfold sumI;rw[show iU (gI cx0 1 cxS[1]!.sums[0]!++gI cx1 1 cxS[1]!.sums[0]!)=[3]from by kernel_rfl]
 have c:moreS cxS cx0 cx1 1 0 3=some (1,0,3,4):=by
  unfold moreS;rw[cxT _ aG3,cxT _ aIU,show jL ⟨3,1,9⟩ 3 (cT bL cx0 (1:Nat))=0 from by kernel_rfl,show jL ⟨3,1,9⟩ 3 (cT bL cx1 (1:Nat))=4 from by kernel_rfl,zp (by decide)];rfl
 rw[e0,a,b];simp[c]
def cxR :List Rg:=[⟨1,0,0,3,4,0⟩,⟨1,1,0,5,6,0⟩,⟨2,1,2,8,9,0⟩,⟨3,1,0,3,0,4⟩]
theorem aLr :(ofP cxW cxS cx0 [cxO]).1=cxR:=by
 unfold ofP;rw[zn (by simp),aEc,zn (by simp),aDA];show(yX kW (kD cxW cxS cx0 [cxO] [])).map rgP++_=_;rw[show yX kW (kD cxW cxS cx0 [cxO] [])=[(1,0,0,3),(1,1,0,5),(2,1,2,8)]from by kernel_rfl];rfl
theorem aFd(o:Ot)(h:gY o=true):∀x∈[o],nF x:=λx hx=>by rw[zms.1 hx];exact yF.1 h
theorem aJD(a:List Rg)(h:a.length<1000000000000):PF Tryz.prog 18 [.seq (a.map Rg.cells), .seq (a.map Rg.cells)] (vb true):=by
 refine pF Tryz.func18 rfl λst=>?_
 focus(repeat' first|apply wZ;rfl|show Cn _;constructor|omega|intro h;simp at h)
 refine aC (X:={x:Nat//x<=a.length}) (λi=>((((St.nil 26 st).pv 0 (.seq (a.map Rg.cells))).pv 1 (.seq (a.map Rg.cells))).pv 5 (vi (i.1:Nat)))) (λi=>a.length-i.1) ⟨0,by omega⟩ ?_ λi=>?_
 ·repeat' first|show Cn _;constructor|exact rfl
 obtain⟨i,hi⟩:=i;dsimp only;by_cases b:a.length<=i
 ·repeat' first|apply wZ;rfl|show Cn _;constructor|exact rfl|simp only[zql];omega|intro h;simp at h
 have c:i<a.length:=by omega
 repeat' first|refine⟨⟨i+1,by omega⟩,?_,?_⟩|apply wZ;rfl|show Cn _;constructor|exact rfl|apply KR.mk;kernel_rfl|apply wI;rfl|apply gE;omega|omega|simp only[zql];omega|intro h;simp at h;done|intro h;simp at h
theorem asW :PF Tryz.prog 6 [] (vb true):=by
 have a:=apD;have g:=lZ 5;have i:=lZ 3;have j:=lZ 8;have n4:=lZ 4;have b:PF Tryz.prog 10 [.agg (scC cxS), .agg (bsC cx0), .seq [cxO.cells], .agg [vi 1,vi 1,vi 1],zI] (.tup [.seq (cxR.map Rg.cells),vi 0]):=λst=>by
  have h:=aH2 (w:=cxW) cxS_K cx0W (l:=[cxO]) (by decide) (by decide) (aFd cxO (by kernel_rfl)) (by decide) (by rw[aEc]) st
  rw[aLr]at h
  exact PC.wkArgs (.cons (zwr _) (.cons (zwr _) (.cons (zwr _) (.cons (zwr _) (.cons Wk.nil .nil))))) h
 have c:PF Tryz.prog 11 [.agg (scC cxS), .agg (bsC cx0), .seq [cxO.cells], .agg [vi 1,vi 1,vi 1],zI] (.tup [.agg (bsC cx1),vi 0]):=λst=>by
  have h:=sG (w:=cxW) cxS_K cx0W (l:=[cxO]) (by decide) (by decide) (aFd cxO (by kernel_rfl)) st
  rw[aEc]at h
  exact PC.wkArgs (.cons (zwr _) (.cons (zwr _) (.cons (zwr _) (.cons (zwr _) (.cons Wk.nil .nil))))) h
 have h4:PF Tryz.prog 7 [.agg (scC cxS), .agg (bsC cx0), .agg (bsC cx1)] (.seq [[vi 1,vi 0,vi 3,vi 4]]):=by
  have h:=afZ (cxS_K.ck (cx0W.S (by decide)) (by decide)) (cxS_K.ck (cx1W.S (by decide)) (by decide));rw[aDA]at h;exact h
 have h5:PF Tryz.prog 10 [.agg (scC cxS), .agg (bsC cx0), .seq [aK1], .agg [vi 1,vi 1,vi 1],zI] (.tup [.seq [],vi 4]):=λst=>by
  have h:=aH7 (w:=cxW) cxS_K cx0W (l:=[cxD]) (by decide) (by decide) (aFd cxD (by kernel_rfl)) (by decide) (by rw[aEF];simp) st
  rw[show ofP cxW cxS cx0 [cxD]=([],4)from by unfold ofP;rw[zn (by simp),aEF,zp (by simp)]]at h
  exact PC.wkArgs (.cons (zwr _) (.cons (zwr _) (.cons (wk1 aII) (.cons (zwr _) (.cons Wk.nil .nil))))) h
 have e:PF Tryz.prog 10 [.agg (scC cxS), .agg (bsC cx0),zI, .agg [vi 1,vi 1,vi 1],zI] (.tup [.seq [],vi 0]):=λst=>by
  have h:=aKP cxW cxS cx0 st
  rw[show ofP cxW cxS cx0 []=([],0)from by unfold ofP;rw[zp (show([]:List Ot).length=0 from rfl)]]at h
  exact PC.wkArgs (.cons (zwr _) (.cons (zwr _) (.cons Wk.nil (.cons (zwr _) (.cons Wk.nil .nil))))) h
 have f:=aJD cxR (by decide);have c0:([[vi 1,vi 0,vi 3,vi 4]]:List (List PV))[0]?=some [vi 1,vi 0,vi 3,vi 4]:=rfl;refine pF Tryz.func6 rfl λst=>?_
 repeat' first|apply wZ;rfl|show Cn _;constructor|exact rfl|apply cL pk;(iterate 6 rfl);rotate_left;rfl;(intro hw;rfl);(intro hw;apply c0<;>omega);(intro _;rfl);rfl|apply a|apply g|apply i|apply j|apply n4|apply b|apply c|apply h4|apply h5|apply e|apply f|apply wY;rfl
end
section
set_option maxRecDepth 10000
set_option maxHeartbeats 4000000
theorem anE :∀{a b c:List UInt8},Op.bytesLess a b=true->Op.bytesLess b c=true->Op.bytesLess a c=true
 |_,_,[],_,e=>by simp[Op.bytesLess]at e
 |_,[],_::_,h1,_=>by simp[Op.bytesLess]at h1
 |[],_::_,_::_,_,_=>rfl
 |a::x,b::y,c::z,h1,e=>by
  simp only[Op.bytesLess,Bool.or_eq_true,zba,zde,beq_iff_eq]at*
  rcases h1 with h1|⟨rfl,h1⟩<;>rcases e with e|⟨rfl,e⟩
  ·exact .inl (UInt8.lt_trans h1 e)
  ·exact .inl h1
  ·exact .inl e
  ·exact .inr ⟨rfl,anE h1 e⟩
theorem ahM{a b:Vl}:cU a b=true↔a.kind<b.kind\/(a.kind=b.kind/\(a.n<b.n\/(a.n=b.n/\Op.bytesLess a.s.toList b.s.toList=true))):=by
 unfold cU;by_cases c:a.kind=b.kind
 ·by_cases e:a.n=b.n
  ·simp[c,e]
  ·simp[c,e]
 ·simp[c]
theorem zW{a b c:Vl}(e:cU a b=true)(f:cU b c=true):cU a c=true:=by
 rw[ahM]at*;rcases e with e|⟨e1,e|⟨f1,e⟩⟩<;>rcases f with f|⟨g,f|⟨h,f⟩⟩
 ·exact .inl (by omega)
 ·exact .inl (by omega)
 ·exact .inl (by omega)
 ·exact .inl (by omega)
 ·exact .inr ⟨by omega, .inl (by omega)⟩
 ·exact .inr ⟨by omega, .inl (by omega)⟩
 ·exact .inl (by omega)
 ·exact .inr ⟨by omega, .inl (by omega)⟩
 ·exact .inr ⟨by omega, .inr ⟨by omega,anE e f⟩⟩
theorem auE{o:List Vl}{v:Vl}{j:Nat}(hj:j<atV o v)(h:j<o.length):cU o[j] v=true:=by
 unfold atV at hj;cases e:o.findIdx? λx=> !cU x v with
 |none=>
  have:=List.findIdx?_eq_none_iff.1 e _ (zgm h)
  simpa using this
 |some k=>
  rw[e]at hj;have:=(List.findIdx?_eq_some_iff_getElem.1 e).2.2 j hj
  simpa using this
theorem aJR{o:List Vl}{v:Vl}(h:atV o v<o.length):cU o[atV o v] v=false:=by
 have key:∀k (hk:k<o.length),atV o v=k->cU o[k] v=false:=λk hk e0=>by
  unfold atV at e0
  cases e:o.findIdx? λx=> !cU x v with
  |none=>rw[e]at e0;simp at e0;omega
  |some j=>
   rw[e]at e0;simp at e0;subst e0;have:=(List.findIdx?_eq_some_iff_getElem.1 e).2.1
   simpa using this
 exact key _ h rfl
def adZ(o:List Vl):Prop:=o.Pairwise λa b=>cU a b=true
theorem akK{o:List Vl}(h:adZ o){i j:Nat}(a:i<j)(hj:j<o.length):cU (o[i]'(by omega)) o[j]=true:=List.pairwise_iff_getElem.1 h i j (by omega) hj a
def qU(o:List Vl):Vl:=o.getLast?.getD Vl.zero
theorem anO{o:List Vl}(h:0<o.length):qU o=o[o.length-1]:=by
 unfold qU;rw[List.getLast?_eq_getElem?,zgg (by omega)];rfl
theorem aBe(o:List Vl)(v:Vl)(hs:adZ o):adZ (abD o v)/\0<(abD o v).length/\qU (abD o v)=if o.length=0\/cU (qU o) v=true then v else qU o:=by
 have w:=aEx o v;rcases Nat.lt_or_ge (atV o v) o.length with ha|ha
 ·have m:=aJR ha
  have k:0<o.length:=by omega
  have f:cU (qU o) v=false:=by
   rw[anO k,<-Bool.not_eq_true];intro q;rcases Nat.lt_or_ge (atV o v) (o.length-1)with h|h
   ·have:=zW (akK hs h (by omega)) q
    rw[m]at this;cases this
   ·have e:o.length-1=atV o v:=by omega
    simp only[e]at q;rw[m]at q;cases q
  rw[zn (by rw[f];rintro(q|q);omega;cases q)];unfold abD;rw[getElem!_pos o (atV o v) ha];by_cases c:vZ o[atV o v] v=true
  ·rw[zp ⟨ha,c⟩]
   exact⟨hs,k,rfl⟩
  ·rw[zn λq=>c q.2]
   have p:cU v o[atV o v]=true:=by
    unfold vZ at c;rw[m]at c
    simpa using c
   unfold dH;refine⟨?_,by simp;omega,?_⟩
   ·unfold adZ
    rw[List.append_assoc,List.pairwise_append,List.pairwise_append];refine⟨List.Pairwise.sublist (List.take_sublist _ _) hs,⟨List.pairwise_singleton _ _,List.Pairwise.sublist (List.drop_sublist _ _) hs,?_⟩,?_⟩
    ·intro a n b g
     rw[zms]at n;subst n;obtain⟨j,hj,rfl⟩:=zgo g;rw[List.getElem_drop];rw[zld]at hj;rcases Nat.eq_zero_or_pos j with rfl|hp
     ·simpa using p
     ·exact zW p (akK hs (by omega) (by omega))
    ·intro a n b g
     obtain⟨i,hi,rfl⟩:=zgo n;rw[zlt]at hi;rw[List.getElem_take];have u:=auE (o:=o) (v:=v) (j:=i) (by omega) (by omega);rcases zma.1 g with g|g
     ·rw[zms]at g;subst g;exact u
     ·obtain⟨j,hj,rfl⟩:=zgo g
      rw[List.getElem_drop];rw[zld]at hj;exact akK hs (by omega) (by omega)
   ·unfold qU
    rw[List.getLast?_append,List.getLast?_drop,zn (by omega)];cases hz:o.getLast? with
    |none=>rw[List.getLast?_eq_none_iff.1 hz]at k;simp at k
    |some z=>rfl
 ·have ha:atV o v=o.length:=by omega
  have f:o.length=0\/cU (qU o) v=true:=by
   rcases Nat.eq_zero_or_pos o.length with h|h
   ·exact .inl h
   ·right
    rw[anO h];exact auE (by omega) (by omega)
  rw[zp f];unfold abD;rw[zn λq=>by omega];unfold dH;rw[ha,List.take_length,List.drop_length,List.append_nil];refine⟨?_,by simp,?_⟩
  ·unfold adZ
   rw[List.pairwise_append];refine⟨hs,List.pairwise_singleton _ _,?_⟩;intro a n b g;rw[zms]at g;subst g;obtain⟨i,hi,rfl⟩:=zgo n;exact auE (by omega) hi
  ·unfold qU;simp
def abB(l:List Pt):Nat->Vl
 |0=>Vl.zero
 |i+1=>if i=0\/cU (abB l i) l[i]!.val=true then l[i]!.val else abB l i
theorem ahT(l:List Pt):∀i,i<=l.length->adZ (fT (l.take i))/\(0<i->0<(fT (l.take i)).length)/\qU (fT (l.take i))=abB l i
 |0,_=>by simp[fT,adZ,qU,abB]
 |i+1,h=>by
  obtain⟨a,b,c⟩:=ahT l i (by omega)
  have h4:=aBe (fT (l.take i)) l[i].val a
  rw[alD (by omega)]
  refine⟨h4.1,λ_=>h4.2.1,?_⟩
  rw[h4.2.2,c]
  unfold abB
  rw[getElem!_pos l i (by omega)]
  have hz:(fT (l.take i)).length=0↔i=0:=by
   constructor
   ·intro q
    rcases Nat.eq_zero_or_pos i with e|e
    ·exact e
    ·have:=b e;omega
   ·rintro rfl;simp[fT]
  simp only[hz]
  cases i<;>rfl
theorem aA5(c:Cl):acU c=abB c.parts c.parts.length:=by
 have:=(ahT c.parts c.parts.length (Nat.le_refl _)).2.2;rw[List.take_length]at this;exact this
def wV(xs:Array Int)(p:Nat):Nat:=if p=0 then 0 else 1+dN xs p
theorem aFT(xs:Array Int)(p:Nat):wV xs p<=p:=by
 unfold wV;split
 ·omega
 ·have:=azH xs 1 (p-1) (Nat.le_refl _)
  rw[show 1+(p-1)=p by omega]at this;have h0:dN xs 1=0:=rfl;omega
theorem aFc(xs:Array Int):wV xs xs.size=abE xs:=by
 unfold wV abE;by_cases h0:xs.size=0
 ·rw[zp h0,zp (by omega)];exact h0.symm
 ·rw[zn h0]
  by_cases a:xs.size<2
  ·rw[zp a,show xs.size=1 by omega];rfl
  ·rw[zn a]
theorem aAw{xs:Array Int}{p:Nat}(h:p=0\/xs[p]!≠xs[p-1]!):wV xs (p+1)=wV xs p+1:=by
 unfold wV;rcases Nat.eq_zero_or_pos p with rfl|hp
 ·rfl
 ·rw[zn (by omega),zn (by omega),aaO xs hp,zn (h.resolve_left (by omega))];omega
theorem aBC{xs:Array Int}{p:Nat}(hp:1<=p)(h:xs[p]! =xs[p-1]!):wV xs (p+1)=wV xs p:=by
 unfold wV;rw[zn (by omega),zn (by omega),aaO xs hp,zp h];rfl
theorem aoH{xs:Array Int}{n:Nat}(hs:∀i j,i<=j->j<n->xs[i]!<=xs[j]!):∀(d p:Nat),d=n-p->1<=p->p<=n->∃q,p<=q/\q<=n/\xs[q-1]! =xs[p-1]!/\wV xs q=wV xs p/\(q<n->xs[q-1]!<xs[q]!)
 |0,p,hd,h1,h2=>⟨p,by omega,h2,rfl,rfl,λh=>by omega⟩
 |d+1,p,hd,h1,h2=>by
  by_cases a:xs[p]! =xs[p-1]!
  ·obtain⟨q,g,b,c,e,f⟩:=aoH hs d (p+1) (by omega) (by omega) (by omega)
   refine⟨q,by omega,b,?_,?_,f⟩
   ·rw[c,show p+1-1=p by omega,a]
   ·rw[e,aBC h1 a]
  ·refine⟨p,by omega,h2,rfl,rfl,λh=>?_⟩
   have:=hs (p-1) p (by omega) (by omega);omega
structure Found (xs:Array Int) (n p:Nat) (out:List Int):Prop where
 le:p<=n
 len:out.length=wV xs p
 last:∀h:0<out.length,0<p/\out[out.length-1]=xs[p-1]!/\(p<n->xs[p-1]!<xs[p]!)
theorem Found.zero{xs:Array Int}{n:Nat}:Found xs n 0 []:=⟨by omega,rfl,λh=>absurd h (by simp)⟩
theorem Found.pos{xs:Array Int}{n p:Nat}{out:List Int}(a:Found xs n p out)(hp:0<p):0<out.length:=by
 rw[a.len];unfold wV;rw[zn (by omega)];omega
def afD(out:List Int)(x:Int):Prop:=out.length=0\/x>out[out.length-1]!
theorem Found.over{xs:Array Int}{n p:Nat}{out:List Int}(h:Found xs n p out)(hs:∀i j,i<=j->j<n->xs[i]!<=xs[j]!){i:Nat}(hi:i<n):afD out xs[i]!↔p<=i:=by
 unfold afD;rcases Nat.eq_zero_or_pos out.length with h0|h0
 ·have:p=0:=by
   rcases Nat.eq_zero_or_pos p with e|e
   ·exact e
   ·have:=h.pos e;omega
  exact⟨λ_=>by omega,λ_=> .inl h0⟩
 ·obtain⟨c,a,b⟩:=h.last h0
  rw[getElem!_pos out (out.length-1) (by omega),a];constructor
  ·rintro(q|q)
   ·omega
   ·rcases Nat.lt_or_ge i p with r|r
    ·have:=hs i (p-1) (by omega) (by have:=h.le;omega);omega
    ·exact r
  ·intro q
   right;have h4:=b (by omega);have:=hs p i q hi;omega
theorem Found.step{xs:Array Int}{n p:Nat}{out:List Int}(h:Found xs n p out)(hs:∀i j,i<=j->j<n->xs[i]!<=xs[j]!){l:Int}(a:afD out l)(b:∃i,i<n/\l=xs[i]!)(c:∀i,i<n->afD out xs[i]!->l<=xs[i]!):∃q,p<q/\Found xs n q (out++[l]):=by
 obtain⟨i,hi,rfl⟩:=b;have g:=(h.over hs hi).1 a;have hp:p<n:=by omega
 have k:xs[i]! =xs[p]!:=by
  have w:=c p hp ((h.over hs hp).2 (Nat.le_refl _));have x:=hs p i g hi;omega
 have f:p=0\/xs[p]!≠xs[p-1]!:=by
  rcases Nat.eq_zero_or_pos p with e|e
  ·exact .inl e
  ·have:=(h.last (h.pos e)).2.2 hp
   exact .inr (by omega)
 have hc:=aAw f;obtain⟨q,y,m,o,u,v⟩:=aoH hs (n-(p+1)) (p+1) rfl (by omega) (by omega);refine⟨q,by omega,m,?_,λ_=>⟨by omega,?_,v⟩⟩
 ·rw[zla,h.len,u,hc];rfl
 ·rw[o,show p+1-1=p by omega,<-k]
  simp
theorem Found.done{xs:Array Int}{n p:Nat}{out:List Int}(h:Found xs n p out)(hs:∀i j,i<=j->j<n->xs[i]!<=xs[j]!)(hn:xs.size=n)(a:∀i,i<n->¬afD out xs[i]!):out.length=abE xs:=by
 have hp:p=n:=by
  rcases Nat.lt_or_ge p n with q|q
  ·exact absurd ((h.over hs q).2 (Nat.le_refl _)) (a p q)
  ·have:=h.le;omega
 rw[h.len,hp,<-hn,aFc]
theorem Found.short{xs:Array Int}{n p:Nat}{out:List Int}(h:Found xs n p out):out.length<=n:=by
 have:=h.len;have:=aFT xs p;have:=h.le;omega
theorem anH(c:Cl):∀i j,i<=j->j<c.parts.length->(fP c).toArray[i]!<=(fP c).toArray[j]!:=by
 intro i j e hj;have f:(fP c).length=c.parts.length:=by unfold fP;rw[List.length_mergeSort,zql]
 rw[getElem!_pos _ i (by simp;omega),getElem!_pos _ j (by simp;omega)];rcases Nat.lt_or_eq_of_le e with h|h
 ·have hp:(fP c).Pairwise λx y=>decide (x<=y)=true:=List.pairwise_mergeSort (by intro a b c;simp;omega) (by intro a b;simp;omega) _
  have:=List.pairwise_iff_getElem.1 hp i j (by omega) (by omega) h
  simpa using this
 ·subst h;exact Int.le_refl _
theorem aeK(c:Cl)(x:Int):(∃i,i<c.parts.length/\x=(fP c).toArray[i]!)↔∃k,∃h:k<c.parts.length,x=c.parts[k].val.n:=by
 have a:(fP c).length=c.parts.length:=by unfold fP;rw[List.length_mergeSort,zql]
 have hm:x∈fP c↔x∈c.parts.map (·.val.n):=by unfold fP;exact List.mem_mergeSort
 constructor
 ·rintro⟨i,hi,rfl⟩
  rw[getElem!_pos _ i (by simp;omega)]at hm⊢;have:=hm.1 (by simp);obtain⟨k,hk,e⟩:=zgo this;rw[zql]at hk;exact⟨k,hk,by rw[<-e];simp⟩
 ·rintro⟨k,hk,rfl⟩
  have:=hm.2 (List.mem_map.2 ⟨_,zgm hk,rfl⟩);obtain⟨i,hi,e⟩:=zgo this;exact⟨i,by omega,by rw[getElem!_pos _ i (by simp;omega)];simpa using e.symm⟩
def tU(out:List Int)(x:Int):Bool:=decide (out.length=0)||decide (x>out[out.length-1]!)
theorem yN{out:List Int}{x:Int}:tU out x=true↔afD out x:=by unfold tU afD;simp
def mnI(out:List Int)(l:List Pt):Nat->Bool×Int
 |0=>(false,0)
 |k+1=>if(tU out l[k]!.val.n&&(!(mnI out l k).1||decide (l[k]!.val.n<(mnI out l k).2)))=true then(true,l[k]!.val.n)else mnI out l k
theorem akP(out:List Int)(l:List Pt):∀k,(mnI out l k).1=false->∀j<k,tU out l[j]!.val.n=false
 |0,_,j,hj=>by omega
 |k+1,h,j,hj=>by
  unfold mnI at h
  split at h
  ·cases h
  ·rename_i q
   rcases zls.1 hj with r|r
   ·exact akP out l k h j r
   ·subst r
    rw[h]at q
    simpa using q
theorem akS(out:List Int)(l:List Pt):∀k,(mnI out l k).1=true->tU out (mnI out l k).2=true/\(∃j,j<k/\(mnI out l k).2=l[j]!.val.n)/\∀j<k,tU out l[j]!.val.n=true->(mnI out l k).2<=l[j]!.val.n
 |0,h=>by cases h
 |k+1,h=>by
  have e:mnI out l (k+1)=if(tU out l[k]!.val.n&&(!(mnI out l k).1||decide (l[k]!.val.n<(mnI out l k).2)))=true then(true,l[k]!.val.n)else mnI out l k:=rfl
  by_cases q:(tU out l[k]!.val.n&&(!(mnI out l k).1||decide (l[k]!.val.n<(mnI out l k).2)))=true
  ·rw[zp q]at e
   rw[e];rw[zba,Bool.or_eq_true,Bool.not_eq_true',zde]at q;refine⟨q.1,⟨k,by omega,rfl⟩,λj hj ho=>?_⟩;rcases zls.1 hj with r|r
   ·rcases q.2 with a|a
    ·rw[akP out l k a j r]at ho;cases ho
    ·cases hm:(mnI out l k).1 with
     |false=>rw[akP out l k hm j r]at ho;cases ho
     |true=>
      have:=(akS out l k hm).2.2 j r ho;show l[k]!.val.n<=_;omega
   ·subst r;exact Int.le_refl _
  ·rw[zn q]at e
   rw[e]at h⊢;obtain⟨b,⟨i,hi,c⟩,f⟩:=akS out l k h;refine⟨b,⟨i,by omega,c⟩,λj hj ho=>?_⟩;rcases zls.1 hj with r|r
   ·exact f j r ho
   ·subst r
    rw[ho,h]at q;simp only[Bool.true_and,Bool.not_true,Bool.false_or,zde]at q;omega
theorem aAF(c:Cl):(fP c).toArray.size=c.parts.length:=by simp[fP]
theorem Found.go{c:Cl}{p:Nat}{out:List Int}(h:Found (fP c).toArray c.parts.length p out):
  ((mnI out c.parts c.parts.length).1=false->out.length=abE (fP c).toArray)/\((mnI out c.parts c.parts.length).1=true->∃q,p<q/\Found (fP c).toArray c.parts.length q (out++[(mnI out c.parts c.parts.length).2])):=by
 have hs:=anH c
 constructor
 ·intro hm
  refine h.done hs (aAF c) λi hi q=>?_;obtain⟨k,hk,e⟩:=(aeK c _).1 ⟨i,hi,rfl⟩;have:=akP out c.parts _ hm k hk;rw[getElem!_pos c.parts k hk,<-e,<-Bool.not_eq_true,yN]at this;exact this q
 ·intro hm
  obtain⟨a,⟨j,hj,b⟩,f⟩:=akS out c.parts _ hm;refine h.step hs (yN.1 a) ?_ λi hi q=>?_
  ·rw[b,getElem!_pos c.parts j hj]
   exact(aeK c _).2 ⟨j,hj,rfl⟩
  ·obtain⟨k,hk,e⟩:=(aeK c _).1 ⟨i,hi,rfl⟩
   rw[e]at q⊢;have:=f k hk (by rw[getElem!_pos c.parts k hk,yN];exact q);rw[getElem!_pos c.parts k hk]at this;exact this
end
section
attribute [local irreducible] Ev PWp
set_option maxRecDepth 10000
set_option maxHeartbeats 4000000
theorem aFN(a b:Vl):cU a b=((decide (a.kind<b.kind)||decide (a.kind=b.kind)&&decide (a.n<b.n))||((decide (a.kind=b.kind)&&decide (a.n=b.n))&&Op.bytesLess a.s.toList b.s.toList)):=by
 rw[Bool.eq_iff_iff,ahM];simp only[Bool.or_eq_true,zba,zde];constructor
 ·rintro(h|⟨h,c|⟨c,e⟩⟩)
  ·exact .inl (.inl h)
  ·exact .inl (.inr ⟨h,c⟩)
  ·exact .inr ⟨⟨h,c⟩,e⟩
 ·rintro((h|⟨h,c⟩)|⟨⟨h,c⟩,e⟩)
  ·exact .inl h
  ·exact .inr ⟨h, .inl c⟩
  ·exact .inr ⟨h, .inr ⟨c,e⟩⟩
theorem oQ(a b:Vl):PF Tryz.prog 304 [.agg a.cells, .agg b.cells] (vb (cU a b)):=by
 rw[aFN];refine pF Tryz.func304 rfl λst=>?_
 repeat' first|apply wZ;rfl|show Cn _;constructor|exact rfl|show(_:PV)=_;(first|simp[*];done|grind);done|intro h;simp at h|intro h
theorem aoB{c:Cl}(h:bV c=0):c.val=⟨1,c.val.n,e0⟩:=by
 unfold bV at h;split at h
 ·cases h
 ·rename_i a
  split at h
  ·cases h
  ·rename_i b
   simp only[ne_eq,not_or,Decidable.not_not]at a b;rw[Vl.ext_iff];exact⟨a.2,rfl,b.1⟩
theorem aqK(c:Cl):PF Tryz.prog 243 [.agg c.cells] (.agg (aeI c).cells):=by
 have hc:=wU c;have hz:=@aoB c;unfold aeI;by_cases h:bV c=0
 ·rw[zp h,hz h]
  rw[h]at hc;clear hz;refine pF Tryz.func243 rfl λst=>?_
  repeat' first|apply wZ;rfl|show Cn _;constructor|exact rfl|apply hc|apply wY;rfl
 ·rw[zn h]
  clear hz;generalize bV c=R at*;refine pF Tryz.func243 rfl λst=>?_
  repeat' first|apply wZ;rfl|show Cn _;constructor|exact rfl|apply hc|apply wY;rfl|omega|intro h
end
end Go.Proofs.YtnogfoojjaainaaGreatDoor
namespace Go.Proofs.YtnogfoojjaainaaGreatDoor.T
open Go Go.Abs
section
attribute [local irreducible] Ev PWp
set_option maxRecDepth 10000
set_option maxHeartbeats 4000000
theorem aIK(p:Pt)(d:Dt)(n:Int):aG p=⟨d,n⟩↔((aG p).dot.dev=d.dev/\(aG p).dot.seq=d.seq)/\(aG p).at_=n:=by
 rw[Nm.ext_iff,Dt.ext_iff]
theorem mN(p:Pt):PF Tryz.prog 301 [.agg p.cells] (.agg (aM p).cells):=by
 refine pF Tryz.func301 rfl λst=>?_
 repeat' first|apply wZ;rfl|show Cn _;constructor|exact rfl
theorem ahK(d:Dt)(n:Int):PF Tryz.prog 344 [.agg d.cells,vi n] (vb (mayN ⟨d,n⟩)):=by
 refine pF Tryz.func344 rfl λst=>?_
 repeat' first|apply wZ;rfl|show Cn _;constructor|exact rfl|show(_:PV)=_;(simp only[mayN,withinB,Bool.and_assoc]);done
theorem oQ(a b:Sp):PF Tryz.prog 302 [.agg a.cells, .agg b.cells] (vb (gM a b)):=by
 refine pF Tryz.func302 rfl λst=>?_
 repeat' first|apply wZ;rfl|show Cn _;constructor|exact rfl|show(_:PV)=_;(simp only[gM];grind);done|intro h
theorem kU (p:Pt):PF Tryz.prog 299 [.agg p.cells] (vb (bM p)):=by
 have hz:aH p=Nm.zero↔(p.after.dev=0/\p.after.seq=0)/\p.afterAt=0:=by rw [Nm.ext_iff,Dt.ext_iff];rfl
 refine pF Tryz.func299 rfl (λst=> ?_)
 (repeat' first|apply wZ;rfl|show Cn _;constructor|exact rfl|((first|apply (ahK p.dot p.at_)|apply (ahK p.after p.afterAt)))|show (_:PV)=_;(first|have e:bM p=false:=(by simp only [bM,withinB,e0];grind);rw [e];done|have e:bM p=(mayN (aG p)&&(mayN (aH p)||decide (aH p=Nm.zero))):=(by simp only [bM,withinB,e0];grind);rw [e];congr 2;rw [Bool.eq_iff_iff];simp only [Bool.or_eq_true,zba,zde,hz];rfl);done|apply wY;rfl|(intro h;simp at h))
def atP(l:List Pt)(k:Nm):Int:=match l.findIdx? (λp=>decide (aG p=k))with|some j=>((j:Nat):Int)|none=> -1
theorem vG(l:List Pt)(d:Dt)(n:Int)(hl:l.length<1000000000000):PF Tryz.prog 300 [.seq (l.map Pt.cells), .agg d.cells,vi n] (vi (atP l ⟨d,n⟩)):=by
 refine pF Tryz.func300 rfl λst=>?_
 repeat' first|apply wZ;rfl|show Cn _;constructor
 refine aC (X:={x:Nat//x<=l.length/\∀j (h:j<x) (c:j<l.length),decide (aG l[j]=⟨d,n⟩)=false}) (λi=>(((((St.nil 31 st).pv 0 (.seq (l.map Pt.cells))).pv 2 (vi n)).var 4 69 (d.cells)).pv 7 (vi (i.1:Nat)))) (λi=>l.length-i.1) ⟨0,by omega,by omega⟩ ?_ λi=>?_
 ·repeat' first|show Cn _;constructor|exact rfl
 obtain⟨i,hi,a⟩:=i;dsimp only;have hd:=λh:i<l.length=>aIK (l[i]'h) d n;by_cases b:i<l.length
 ·have hd:aG l[i]=⟨d,n⟩↔(l[i].dot.dev=d.dev/\l[i].dot.seq=d.seq)/\l[i].at_=n:=hd b
  repeat' first|refine⟨⟨i+1,by omega,λj e c=>by rcases zls.1 e with q|q;exact a j q c;subst q;rw[decide_eq_false_iff_not,hd];grind⟩,?_,?_⟩|apply wZ;rfl|show Cn _;constructor|exact rfl|apply KR.mk;kernel_rfl|show(_:PV)=_;(rw[atP,lN b (decide_eq_true (hd.2 (by grind))) a]);done|apply wI;rfl|apply gE;omega|omega|simp only[zql];omega|intro h;simp at h
 ·repeat' first|apply wZ;rfl|show Cn _;constructor|exact rfl|show(_:PV)=_;(rw[atP,mS (by omega) a]);done|simp only[zql];omega|intro h;simp at h
def aDI(l:List Pt)(i:Nat)(h:i<l.length):Prop:=
 bM l[i]=true/\atP l (aG l[i])=i/\(∀k (hk:k<i),(l[k]'(by omega)).dot=l[i].dot->(l[k]'(by omega)).time=l[i].time)/\
  (l[i].after=Dt.zero\/∃u,∃hu:u<l.length,l.findIdx? (λp=>decide (aG p=aH l[i]))=some u/\dK l[u] l[i]=true)
theorem gN{l:List Pt}(hn:(l.map aG).Nodup){i:Nat}(h:i<l.length):atP l (aG l[i])=i:=by
 have:l.findIdx? (λp=>decide (aG p=aG l[i]))=some i:=lN h (by simp) λj hj a=>by
  rw[decide_eq_false_iff_not]
  intro e
  have:=(List.pairwise_iff_getElem.1 hn) j i (by simpa using a) (by simpa using h) hj
  simp only[List.getElem_map]at this
  exact this e
 rw[atP,this]
theorem aeD{p:Pt}(h:bM p=true):p.after=Dt.zero↔aH p=Nm.zero:=by
 have a:aH p=Nm.zero\/mayN (aH p)=true:=by
  simp only[bM,zba,Bool.or_eq_true,zde]at h;exact h.2
 constructor
 ·intro e
  rcases a with a|a
  ·exact a
  ·simp only[mayN,withinB,zba,zde]at a
   have:=a.1.1.1;rw[show(aH p).dot=p.after from rfl,e]at this;have b:(1:Int)<=0:=this;omega
 ·intro e;exact congrArg Nm.dot e
theorem afA{l:List Pt}:Whole l↔∀i (h:i<l.length),aDI l i h:=by
 constructor
 ·intro a i h
  refine⟨a.formed _ (zgm h),gN a.nodup h,λk hk e=>a.times _ (zgm _) _ (zgm h) e,?_⟩;rcases a.up _ (zgm h)with e|⟨u,hu,e,ha⟩
  ·exact .inl ((aeD (a.formed _ (zgm h))).2 e)
  ·right
   obtain⟨j,hj,rfl⟩:=zgo hu;refine⟨j,hj,?_,ha⟩;have:=gN a.nodup hj;rw[atP,e]at this;split at this
   ·rename_i j' f;rw[f];congr 1;omega
   ·omega
 ·intro H
  have m:(l.map aG).Nodup:=by
   rw[List.Nodup,List.pairwise_iff_getElem];intro i j hi hj c;simp only[zql]at hi hj;simp only[List.getElem_map];intro e;have b:=(H j hj).2.1;rw[atP,<-e]at b;split at b
   ·rename_i k hk
    have g:k=j:=by omega
    subst g;have:=(List.findIdx?_eq_some_iff_getElem.1 hk).2.2 i c;simp at this
   ·omega
  refine⟨⟨λp hp=>?_,m,λp hp q hq e=>?_⟩,λp hp=>?_⟩
  ·obtain⟨i,hi,rfl⟩:=zgo hp;exact(H i hi).1
  ·obtain⟨i,hi,rfl⟩:=zgo hp
   obtain⟨j,hj,rfl⟩:=zgo hq;rcases Nat.lt_trichotomy i j with h|h|h
   ·exact(H j hj).2.2.1 i h e
   ·subst h;rfl
   ·exact((H i hi).2.2.1 j h e.symm).symm
  ·obtain⟨i,hi,rfl⟩:=zgo hp
   rcases(H i hi).2.2.2 with e|⟨u,hu,b,n⟩
   ·exact .inl ((aeD (H i hi).1).1 e)
   ·right
    obtain⟨v,o,_⟩:=List.findIdx?_eq_some_iff_getElem.1 b;exact⟨l[u],zgm hu,by simpa using o,n⟩
theorem aEl{l:List Pt}{i:Nat}(h:i<l.length)(hn:¬aDI l i h):eZ l=false:=by
 rw[<-Bool.not_eq_true,eB,afA];exactλH=>hn (H i h)
theorem rT (l:List Pt) (hl:l.length<1000000000000):PF Tryz.prog 239 [.seq (l.map Pt.cells)] (vb (eZ l)):=by
 refine pF Tryz.func239 rfl (λst=> ?_)
 (repeat' first|apply wZ;rfl|show Cn _;constructor)
 refine aC (X:={x:Nat//x<=l.length/\∀j (h:j<x) (h2:j<l.length),aDI l j h2}) (λi=>(((St.nil 122 st).pv 0 (.seq (l.map Pt.cells))).pv 3 ((vi ((i.1:Nat)))))) (λi=>l.length-i.1) ⟨0,by omega,by omega⟩ ?_ (λi=> ?_)
 ·(repeat' first|show Cn _;constructor|exact rfl)
 obtain ⟨i,hi,hinv⟩:=i
 dsimp only
 by_cases him:i<l.length
 ·have hn:=λh=>aEl him h
  have hz:(l[i]'him).after=Dt.zero↔(l[i]'him).after.dev=0/\(l[i]'him).after.seq=0:=Dt.ext_iff _ _
  have hsucc:aDI l i him->∀j (h:j<i+1) (h2:j<l.length),aDI l j h2:=λho j h1 h2=>by
   rcases zls.1 h1 with q|q
   ·exact hinv j q h2
   ·subst q;exact ho
  have hat:=vG l (l[i]'him).dot (l[i]'him).at_ hl
  have hup:=vG l (l[i]'him).after (l[i]'him).afterAt hl
  (repeat' first|apply wZ;rfl|show Cn _;constructor|exact rfl|apply KR.mk;kernel_rfl|((first|apply (kU (l[i]'him))|apply hat))|show (_:PV)=_;((rw [hn (λq=>by have h1:=q.1;have h2:atP l ⟨l[i].dot,l[i].at_⟩=i:=q.2.1;grind)];done));done|apply wY;rfl|apply wI;rfl|apply gE;omega|simp only [zql];omega|(intro h;simp at h))
  have hf:bM (l[i]'him)=true/\atP l (aG (l[i]'him))=i:=h
  refine aC (X:={k:Nat//k<=i/\∀m (hm:m<k) (hml:m<l.length),(l[m]'hml).dot=(l[i]'him).dot->(l[m]'hml).time=(l[i]'him).time}) (λy=>((((St.nil 122 st).pv 0 (.seq (l.map Pt.cells))).pv 3 ((vi ((i:Nat))))).pv 5 ((vi ((y.1:Nat)))))) (λy=>i-y.1) ⟨0,by omega,by omega⟩ ?_ (λy=> ?_)
  ·(repeat' first|show Cn _;constructor|exact rfl)
  obtain ⟨k,hk,hkinv⟩:=y
  dsimp only
  have hkl:k<l.length\/¬k<i:=by omega
  by_cases hki:k<i
  ·have hkl:k<l.length:=by omega
   have hd:=Dt.ext_iff (l[k]'hkl).dot (l[i]'him).dot
   (repeat' first|(refine ⟨⟨k+1,by omega,λm h1 h2=>by rcases zls.1 h1 with q|q;exact hkinv m q h2;subst q;grind⟩, ?_, ?_⟩)|apply wZ;rfl|show Cn _;constructor|exact rfl|apply KR.mk;kernel_rfl|show (_:PV)=_;((rw [hn (λq=>by have h1:=q.2.2.1 k hki;grind)];done));done|apply wI;rfl|apply gE;omega|omega|simp only [zql];omega|(intro h;simp at h))
  ·have ht:∀m (hm:m<i),(l[m]'(by omega)).dot=(l[i]'him).dot->(l[m]'(by omega)).time=(l[i]'him).time:=λm hm=>hkinv m (by omega) (by omega)
   cases hI:l.findIdx? (λp=>decide (aG p=aH (l[i]'him))) with
   |none=>
    have e:atP l ⟨(l[i]'him).after,(l[i]'him).afterAt⟩= -1:=by rw [atP,show (⟨(l[i]'him).after,(l[i]'him).afterAt⟩:Nm)=aH (l[i]'him) from rfl,hI]
    rw [e] at hup
    (repeat' first|(refine ⟨⟨i+1,by omega,hsucc ⟨hf.1,hf.2,ht, .inl (hz.2 (by grind))⟩⟩, ?_, ?_⟩)|apply wZ;rfl|show Cn _;constructor|exact rfl|apply KR.mk;kernel_rfl|(apply hup)|show (_:PV)=_;((rw [hn (λq=>by rcases q.2.2.2 with q|⟨u,hu,q,_⟩;(rw [hz] at q;grind);(rw [hI] at q;cases q))];done));done|apply wY;rfl|apply wI;rfl|apply gE;omega|omega|simp only [zql];omega|(intro h;simp at h))
   |some u=>
    have e:atP l ⟨(l[i]'him).after,(l[i]'him).afterAt⟩=(u:Int):=by rw [atP,show (⟨(l[i]'him).after,(l[i]'him).afterAt⟩:Nm)=aH (l[i]'him) from rfl,hI]
    rw [e] at hup
    obtain ⟨hul,_,_⟩:=List.findIdx?_eq_some_iff_getElem.1 hI
    have hS:=Sp.ext_iff (aM (l[u]'hul)) (aM (l[i]'him))
    have ha:dK (l[u]'hul) (l[i]'him)=(gM (aM (l[u]'hul)) (aM (l[i]'him))||(decide (aM (l[u]'hul)=aM (l[i]'him))&&decide ((l[u]'hul).at_<(l[i]'him).at_))):=rfl
    (repeat' first|((first|refine ⟨⟨i+1,by omega,hsucc ⟨hf.1,hf.2,ht, .inl (hz.2 (by grind))⟩⟩, ?_,by simp only;omega⟩|refine ⟨⟨i+1,by omega,hsucc ⟨hf.1,hf.2,ht, .inr ⟨u,hul,hI,by rw [ha];grind⟩⟩⟩, ?_,by simp only;omega⟩);focus ((repeat' first|show Cn _;constructor|exact rfl);done))|apply wZ;rfl|show Cn _;constructor|exact rfl|apply KR.mk;kernel_rfl|((first|apply hup|apply (mN (l[u]'hul))|apply (mN (l[i]'him))|apply (oQ (aM (l[u]'hul)) (aM (l[i]'him)))))|show (_:PV)=_;((rw [hn (λq=>by rcases q.2.2.2 with q|⟨u',hu',q,q2⟩;(rw [hz] at q;grind);(rw [hI] at q;injection q with q;subst q;rw [ha] at q2;grind))];done));done|apply wY;rfl|apply wI;rfl|apply gE;omega|omega|(intro h;simp at h))
 ·(repeat' first|apply wZ;rfl|show Cn _;constructor|exact rfl|show (_:PV)=_;(rw [(eB l).2 (afA.2 λj h=>hinv j (by omega) h)]);done|simp only [zql];omega|(intro h;simp at h))
theorem Anc.pre{l:List Pt}{p:Pt}{s:List Pt}(h:Anc l p s):∀(c:Nat)(hc:c<s.length),Anc l s[c] (s.take (c+1)):=by
 induction h with
 |root hp h0=>
  intro c hc;have:c=0:=by simpa using hc
  subst this;exact .root hp h0
 |@step p u r hp hu e h0 h ih=>
  intro c hc;by_cases a:c<r.length
  ·have:=ih c a
   rw[List.getElem_append_left a,List.take_append_of_le_length (by omega)];exact this
  ·have:c=r.length:=by simp at hc;omega
   subst this;rw[ztl (by simp)];simp only[List.getElem_append_right (Nat.le_refl _),Nat.sub_self,List.getElem_singleton];exact .step hp hu e h0 h
theorem Anc.par{l:List Pt}{p:Pt}{s:List Pt}(h:Anc l p s):∀(c:Nat)(hc:c<s.length),(c=0->aH s[c]=Nm.zero)/\∀(h0:0<c),aH s[c]=aG (s[c-1]'(by omega))/\aH s[c]≠Nm.zero:=by
 intro c hc;have hA:=h.pre c hc;generalize g:s.take (c+1)=t at hA;have a:t.length=c+1:=by rw[<-g,zlt];omega
 have hq:s[c]=s[c]:=rfl;cases hA with
 |root _ h0=>exact⟨λ_=>h0,λf=>by simp at a;omega⟩
 |@step _ u r hp hu e h0 h'=>
  simp only[zla,List.length_singleton]at a;refine⟨λf=>?_,λf=>⟨?_,h0⟩⟩
  ·subst f
   obtain⟨q,hq⟩:=h'.last;rw[hq]at a;simp at a
  ·rw[<-e]
   obtain⟨q,hq⟩:=h'.last;have i:r[c-1]?=some u:=by rw[hq,List.getElem?_append_right (by rw[hq]at a;simp at a;omega)];rw[hq]at a;simp at a;simp[show c-1-q.length=0 by omega]
   have b:(s.take (c+1))[c-1]?=some u:=by rw[g,List.getElem?_append_left (by omega)];exact i
   rw[List.getElem?_take,zp (by omega),zgg (by omega)]at b;injection b with b
   rw[b]
theorem aDt :∀{s t:List Pt}(c:Nat)(hs:c<s.length)(ht:c<t.length),s.take c=t.take c->s[c]≠t[c]->(gF s t↔eT s[c] t[c])
 |[],_,_,hs,_,_,_=>by simp at hs
 |_::_,[],_,_,ht,_,_=>by simp at ht
 |a::s,b::t,0,_,_,_,h=>by
  simp only[List.getElem_cons_zero]at h⊢
  simp only[gF];constructor
  ·rintro(⟨e,_⟩|e)
   ·exact absurd e h
   ·exact e
  ·exact .inr
 |a::s,b::t,c+1,hs,ht,he,h=>by
  simp only[List.take_succ_cons,List.cons.injEq]at he
  simp only[List.getElem_cons_succ]at h⊢
  have:=aDt c (by simpa using hs) (by simpa using ht) he.2 h
  simp only[gF]
  rw[<-this,he.1]
  constructor
  ·rintro(⟨_,k⟩|k)
   ·exact k
   ·exact absurd k (yL b)
  ·exactλk=> .inl ⟨rfl,k⟩
theorem axG :∀{s t:List Pt},(∃m,s.take m=t.take m/\(m=s.length/\m<=t.length\/m=t.length/\m<=s.length))->(gF s t↔s.length<t.length)
 |[],[],_=>by simp[gF]
 |[],b::t,_=>by simp[gF]
 |a::s,[],_=>by simp[gF]
 |a::s,b::t,⟨m,he,hm⟩=>by
  cases m with
  |zero=>simp at hm
  |succ m=>
   simp only[List.take_succ_cons,List.cons.injEq]at he;simp only[zlc]at hm⊢;have:=axG (s:=s) (t:=t) ⟨m,he.2,by omega⟩;simp only[gF,he.1];constructor
   ·rintro(⟨_,k⟩|k)
    ·have:=this.1 k;omega
    ·exact absurd k (yL b)
   ·intro k;exact .inl ⟨trivial,this.2 (by omega)⟩
theorem aoE{l:List Pt}(hn:(l.map aG).Nodup){i j:Nat}(hi:i<l.length)(hj:j<l.length)(e:l[i]=l[j]):i=j:=by
 have a:=gN hn hi;have b:=gN hn hj;rw[e,b]at a;omega
theorem Anc.len{l:List Pt}(b:Whole l){p:Pt}{s:List Pt}(h:Anc l p s):s.length<=(l.filter λq=>dK q p).length+1:=by
 induction h with
 |root=>simp
 |@step p u r hp hu e h0 h ih=>
  rw[zla,List.length_singleton];obtain⟨v,hv,c,ha⟩:=(b.up p hp).resolve_left h0;have:u=v:=b.named u hu v hv (by rw[e,c]);subst this;have:=sD (f:=λq=>dK q u) (g:=λq=>dK q p) (a:=u) hu ha (by rw[<-Bool.not_eq_true,jH];omega) λq _ hq=>by
   rw[jH]at ha hq⊢;omega
  omega
theorem Anc.le{l:List Pt}(a:Whole l){p:Pt}{s:List Pt}(h:Anc l p s):s.length<=l.length+1:=by
 have:=h.len a;have:=List.length_filter_le (λq=>dK q p) l;omega
theorem aaU{l:List Pt}(f:Whole l)(hl:l.length<1000000000000){i:Nat}(hi:i<l.length){s:List Pt}(hs:Anc l (l[i]'hi) s):PF Tryz.prog 345 [.seq (l.map Pt.cells),vi (i:Nat)] (vi ((s.length:Int)-1)):=by
 have v:=hs.le f;refine pF Tryz.func345 rfl λst=>?_
 repeat' first|apply wZ;rfl|show Cn _;constructor
 refine aC (X:={x:Nat×List Pt×Nat//(∃h:x.1<l.length,Anc l l[x.1] x.2.1)/\x.2.1.length+x.2.2=s.length}) (λi=>((((St.nil 28 st).pv 0 (.seq (l.map Pt.cells))).pv 1 (vi (i.1.1:Nat))).pv 5 (vi (i.1.2.2:Nat)))) (λi=>s.length-i.1.2.2) ⟨(i,s,0),⟨hi,hs⟩,by simp⟩ ?_ λi=>?_
 ·repeat' first|show Cn _;constructor|exact rfl
 obtain⟨⟨j,t,n⟩,⟨hj,hA⟩,a⟩:=i;simp only at hj hA a;dsimp only;have hz:(l[j]'hj).after=Dt.zero↔(l[j]'hj).after.dev=0/\(l[j]'hj).after.seq=0:=Dt.ext_iff _ _;have m:=aeD (f.formed _ (zgm hj));have c:=vG l (l[j]'hj).after (l[j]'hj).afterAt hl;generalize hq:l[j]'hj=q at hA;cases hA with
 |root hp h0=>
  obtain⟨w,y⟩:=hz.1 (m.2 (by rw[hq];exact h0));simp only[List.length_singleton]at a;have b:(n:Int)=(s.length:Int)-1:=by omega
  (repeat' first|apply wZ;rfl|show Cn _;constructor|exact rfl|show(_:PV)=_;(rw[b]);done|apply wI;rfl|apply gE;omega|intro h;simp at h;omega|intro h;simp at h)
 |@step _ u r hp hu e h0 h=>
  obtain⟨k,hk,rfl⟩:=zgo hu;have g:=gN f.nodup hk;have p:(l[j]'hj).after.dev≠0\/(l[j]'hj).after.seq≠0:=by
   have:¬(l[j]'hj).after=Dt.zero:=by rw[m,hq];exact h0
   rw[hz]at this;omega
  rw[show(⟨(l[j]'hj).after,(l[j]'hj).afterAt⟩:Nm)=aH (l[j]'hj)from rfl,hq,<-e,g,<-hq]at c;simp only[zla,List.length_singleton]at a;have o:=h
  repeat' first|refine⟨⟨(k,r,n+1),⟨hk,o⟩,by simp only;omega⟩,?_,?_⟩|apply wZ;rfl|show Cn _;constructor|exact rfl|apply KR.mk;kernel_rfl|apply c|apply wY;rfl|apply wI;rfl|apply gE;omega|omega|simp only[zql];omega|intro h;simp at h;omega|intro h;simp at h
theorem aFb{l:List Pt}(g:Whole l)(hl:l.length<1000000000000){i:Nat}(hi:i<l.length){s:List Pt}(hs:Anc l (l[i]'hi) s)(m:Nat)(hm:m<s.length)(j:Nat)(hj:j<l.length)(e:s[s.length-1-m]'(by omega)=l[j]):PF Tryz.prog 346 [.seq (l.map Pt.cells),vi (i:Nat),vi (m:Nat)] (vi (j:Nat)):=by
 have v:=hs.le g;refine pF Tryz.func346 rfl λst=>?_
 repeat' first|apply wZ;rfl|show Cn _;constructor
 refine aC (X:={x:Nat×Nat//(∃h:x.1<l.length,l[x.1]=s[s.length-1-x.2]'(by omega))/\x.2<=m}) (λi=>(((((St.nil 26 st).pv 0 (.seq (l.map Pt.cells))).pv 1 (vi (i.1.1:Nat))).pv 2 (vi (m:Nat))).pv 7 (vi (i.1.2:Nat)))) (λi=>m-i.1.2) ⟨(i,0),⟨hi,by obtain⟨r,u⟩:=hs.last;simp[u]⟩,by simp⟩ ?_ λi=>?_
 ·repeat' first|show Cn _;constructor|exact rfl
 obtain⟨⟨k,n⟩,⟨hk,hA⟩,hn⟩:=i;simp only at hk hA hn;dsimp only;have b:=vG l (l[k]'hk).after (l[k]'hk).afterAt hl;by_cases q:n<m
 ·obtain⟨p,w⟩:=(hs.par (s.length-1-n) (by omega)).2 (by omega)
  have f:=hs.all _ (zgm (show s.length-1-n-1<s.length by omega));obtain⟨k2,c,a⟩:=zgo f;have o:=gN g.nodup c;rw[show(⟨(l[k]'hk).after,(l[k]'hk).afterAt⟩:Nm)=aH (l[k]'hk)from rfl,hA,p,<-a,o]at b;rw[<-hA]at b
  repeat' first|refine⟨⟨(k2,n+1),⟨c,by simp only[a];congr 1⟩,by simp only;omega⟩,?_,?_⟩|apply wZ;rfl|show Cn _;constructor|exact rfl|apply KR.mk;kernel_rfl|apply b|apply wY;rfl|apply wI;rfl|apply gE;omega|omega|simp only[zql];omega|intro h;simp at h
 ·have:n=m:=by omega
  subst this;obtain rfl:k=j:=aoE g.nodup hk hj (by rw[hA,e])
  repeat' first|apply wZ;rfl|show Cn _;constructor|exact rfl|omega|intro h;simp at h
theorem awX{l:List Pt}(a:Whole l)(hl:l.length<1000000000000){i:Nat}(hi:i<l.length){s:List Pt}(hs:Anc l (l[i]'hi) s)(m:Nat)(hm:m<s.length)(j:Nat)(hj:j<l.length)(e:s[s.length-1-m]'(by omega)=l[j]){x:Int}(hx:x=m):PF Tryz.prog 346 [.seq (l.map Pt.cells),vi (i:Nat),vi x] (vi (j:Nat)):=by
 subst hx;exact aFb a hl hi hs m hm j hj e
theorem Anc.eqTake{l:List Pt}(hn:named l){p q:Pt}{s t:List Pt}(hs:Anc l p s)(ht:Anc l q t){c:Nat}(a:c<s.length)(b:c<t.length)(e:s[c]=t[c]):s.take (c+1)=t.take (c+1):=
 (hs.pre c a).fn hn (e▸ht.pre c b)
theorem aBw{l:List Pt}(f:Whole l){p q:Pt}{s t:List Pt}(hs:Anc l p s)(ht:Anc l q t){c:Nat}(a:c<s.length)(b:c<t.length)(e:s[c]≠t[c])(hp:aH s[c]=aH t[c]):gF s t↔eT s[c] t[c]:=by
 refine aDt c a b ?_ e;cases c with
 |zero=>simp
 |succ c=>
  obtain⟨g,h⟩:=(hs.par (c+1) a).2 (by omega);obtain⟨b1,b2⟩:=(ht.par (c+1) b).2 (by omega);have:s[c]=t[c]:=f.named _ (hs.all _ (zgm _)) _ (ht.all _ (zgm _)) (by
   have a:aH s[c+1]=aG s[c]:=g
   have b:aH t[c+1]=aG t[c]:=b1
   rw[<-a,<-b,hp])
  exact hs.eqTake f.named ht (by omega) (by omega) this
theorem aBH{l:List Pt}{p q:Pt}{s t:List Pt}(hs:Anc l p s)(ht:Anc l q t){c:Nat}(a:c<s.length)(b:c<t.length)(hp:aH s[c]≠aH t[c]):0<c/\∀h:0<c,s[c-1]'(by omega)≠t[c-1]'(by omega):=by
 have h0:0<c:=by
  cases c with
  |zero=>exact absurd ((hs.par 0 a).1 rfl|>.trans ((ht.par 0 b).1 rfl).symm) hp
  |succ c=>omega
 refine⟨h0,λ_ e=>hp ?_⟩;rw[((hs.par c a).2 h0).1,((ht.par c b).2 h0).1,e]
theorem aHy(a b:Pt):decide (eT a b)=if aM a=aM b then decide (a.at_<b.at_)else gM (aM b) (aM a):=by
 split
 ·rename_i h;rw[decide_eq_decide];unfold eT;rw[h,ahH];simp
 ·rename_i h;rw[Bool.eq_iff_iff,zde];unfold eT;simp[h]
theorem alN{l:List Pt}(m:Whole l)(hl:l.length<1000000000000){i k:Nat}(hi:i<l.length)(hk:k<l.length){s t:List Pt}(hs:Anc l (l[i]'hi) s)(ht:Anc l (l[k]'hk) t)(b:Bool)(hb:b=true↔gF s t):PF Tryz.prog 303 [.seq (l.map Pt.cells),vi (i:Nat),vi (k:Nat)] (vb b):=by
 have M:=hs.le m;have O:=ht.le m;have L:0<s.length:=by obtain⟨r,G⟩:=hs.last;rw[G];simp
 have N:0<t.length:=by obtain⟨r,G⟩:=ht.last;rw[G];simp
 obtain⟨c,hc⟩:∃c,c=min (s.length-1) (t.length-1):=⟨_,rfl⟩;have g:c<s.length:=by omega
 have j:c<t.length:=by omega
 obtain⟨x,hx,a⟩:=zgo (hs.all _ (zgm g));obtain⟨y,hy,f⟩:=zgo (ht.all _ (zgm j));have o:=fun{z:Int}(hz:z=((s.length-1-c:Nat):Int))=>awX m hl hi hs (s.length-1-c) (by omega) x hx (by rw[a];congr 1;omega) hz;have p:=fun{z:Int}(hz:z=((t.length-1-c:Nat):Int))=>awX m hl hk ht (t.length-1-c) (by omega) y hy (by rw[f];congr 1;omega) hz;have q:x=y->(b=decide (((s.length:Int)-1)<((t.length:Int)-1))):=λe=>by
  subst e
  have J:s[c]=t[c]:=by rw[<-a,<-f]
  have:=axG (s:=s) (t:=t) ⟨c+1,hs.eqTake m.named ht g j J,by omega⟩
  rw[Bool.eq_iff_iff,hb,this,zde];omega
 refine pF Tryz.func303 rfl λst=>?_
 repeat' first|apply wZ;rfl|show Cn _;constructor|exact rfl|((first|apply aaU m hl hi hs|apply aaU m hl hk ht|apply o|apply p)<;>(omega))|show(_:PV)=_;(rw[q (by omega)]);done|apply wY;rfl|omega|intro h
 refine aC (X:={v:Nat×Nat×Nat//∃(Q:v.1<s.length) (R:v.1<t.length) (hx:v.2.1<l.length) (hy:v.2.2<l.length),l[v.2.1]=s[v.1]/\l[v.2.2]=t[v.1]/\s[v.1]≠t[v.1]}) (λv=>((((St.nil 98 st).pv 0 (.seq (l.map Pt.cells))).pv 10 (vi (v.1.2.1:Nat))).pv 11 (vi (v.1.2.2:Nat)))) (λv=>v.1.1) ⟨(c,x,y),g,j,hx,hy,a,f,λe=>(by exact h (by have:=aoE m.nodup hx hy (by rw[a,f,e]);omega))⟩ ?_ λv=>?_
 ·repeat' first|show Cn _;constructor|exact rfl
 clear o p q a f hx hy;obtain⟨⟨c,x,y⟩,g,j,hx,hy,a,f,B⟩:=v;simp only at g j hx hy a f B;dsimp only;have C:aH (l[x]'hx)=aH (l[y]'hy)↔((l[x]'hx).after.dev=(l[y]'hy).after.dev/\(l[x]'hx).after.seq=(l[y]'hy).after.seq)/\(l[x]'hx).afterAt=(l[y]'hy).afterAt:=by
  rw[Nm.ext_iff,Dt.ext_iff];rfl
 by_cases hp:aH (l[x]'hx)=aH (l[y]'hy)
 ·obtain⟨⟨U,V⟩,W⟩:=C.1 hp
  have S:=Sp.ext_iff (aM (l[x]'hx)) (aM (l[y]'hy));have A:b=if aM (l[x]'hx)=aM (l[y]'hy)then decide ((l[x]'hx).at_<(l[y]'hy).at_)else gM (aM (l[y]'hy)) (aM (l[x]'hx)):=by
   rw[<-aHy,Bool.eq_iff_iff,hb,zde,aBw m hs ht g j B (by rw[<-a,<-f];exact hp),a,f]
  repeat' first|apply wZ;rfl|show Cn _;constructor|exact rfl|apply KR.mk;kernel_rfl|(first|apply mN (l[x]'hx)|apply mN (l[y]'hy)|apply oQ (aM (l[y]'hy)) (aM (l[x]'hx)))|show(_:PV)=_;(first|rw[A,zp (by grind)];done|rw[A,zn (by grind)]);done|apply wY;rfl|apply wI;rfl|apply gE;omega|intro h;simp at h;omega|intro h;simp at h
 ·have hn:¬(((l[x]'hx).after.dev=(l[y]'hy).after.dev/\(l[x]'hx).after.seq=(l[y]'hy).after.seq)/\(l[x]'hx).afterAt=(l[y]'hy).afterAt):=λh=>hp (C.2 h)
  obtain⟨F,n⟩:=aBH hs ht g j (by rw[<-a,<-f];exact hp);have n:=n F;obtain⟨H,D,u⟩:=zgo (hs.all _ (zgm (show c-1<s.length by omega)));obtain⟨I,E,w⟩:=zgo (ht.all _ (zgm (show c-1<t.length by omega)));have T:(s.take (c+1)).length=c+1:=by rw[zlt];omega
  have lt:(t.take (c+1)).length=c+1:=by rw[zlt];omega
  have o:=awX m hl hx (s:=s.take (c+1)) (by rw[a];exact hs.pre c g) 1 (by omega) H D (by rw[u,List.getElem_take];congr 1;omega) (x:=1) rfl;have p:=awX m hl hy (s:=t.take (c+1)) (by rw[f];exact ht.pre c j) 1 (by omega) I E (by rw[w,List.getElem_take];congr 1;omega) (x:=1) rfl
  repeat' first|refine⟨⟨(c-1,H,I),by simp only;omega,by simp only;omega,D,E,u,w,n⟩,?_,?_⟩|apply wZ;rfl|show Cn _;constructor|exact rfl|apply KR.mk;kernel_rfl|(first|apply o|apply p)|apply wY;rfl|apply wI;rfl|apply gE;omega|simp only[zql];omega|intro h;simp at h;omega|intro h;simp at h
end
section
attribute [local irreducible] Ev PWp
set_option maxRecDepth 10000
set_option maxHeartbeats 4000000
section
variable{P:Program}{tt:TT}{l:List Oper}{d:Md}{r:List Oper}{s:St}{K:St->Prop}{t:Nat}{ty:TypeId}{pos:String}{after:Array Edge}
theorem aGJ{α:Type}{f:α->List PV}(pk:Pk P tt)(z0:α){T e:TypeId}{x y:Operand}{q u:IntKind}{n B sz:Nat}{z:List Value}{a b:Int}(hx:opd s x=some (.val (.int q a)))(hy:opd s y=some (.val (.int u b)))(hk:tiK tt T=some (.slice e))(hs:aN tt e=some sz)(hz:tiZ tt e=some z)(j:z.length=sz)(c:Nat.blt 0 sz=true)(i:z.map .val=f z0)(hf:bP s [x,y]=true)(hd:Nat.blt t s.n=true)(ht:iQ d l r=true)
  (ha:a=n) (h:b=n) (p:P.bytesOf e=B) (hb:n*B<=140737488355328) (g:n<4611686018427387904) (k:∀id,s.st id=none->Ev P l d r ((s.sst (upd s.st id (some (.arr e ((List.replicate n z0).map f))))).pv t (.vec id sz 0 n)) K):Ev P l d (⟨some t, .makeSlice T x y,ty,pos,after,none⟩::r) s K:=by
 subst ha h
 refine dX (tN pk.htt hx hy hk hs hz j (by simpa[Nat.blt_eq]using c) p hb g) (λz hz=>aK (λ_ _ _ e=>by cases e) hz) hf hd ht λv m=>?_
 obtain⟨id,o,rfl⟩:=m
 have:=k id o
 rw[List.map_replicate,<-i]at this
 exact this
end
def sW(D:List Pt)(p:Pt):Int:=atP D (aG p)
theorem aBG{D:List Pt}(hn:(D.map aG).Nodup):∀(m:Nat),m<=D.length->D.countP (λp=>decide (sW D p<m))=m:=by
 intro m hm;have a:(D.take m).countP (λp=>decide (sW D p<m))=m:=by
  rw[List.countP_eq_length.2 λp hp=>?_,zlt];omega;obtain⟨j,hj,rfl⟩:=zgo hp;simp only[zlt]at hj;rw[List.getElem_take,zde,sW,gN hn (by omega)];omega
 have b:(D.drop m).countP (λp=>decide (sW D p<m))=0:=by
  rw[List.countP_eq_zero];intro p hp;obtain⟨j,hj,rfl⟩:=zgo hp;simp only[zld]at hj;rw[List.getElem_drop,zde,sW,gN hn (by omega)];omega
 calc D.countP (λp=>decide (sW D p<m))=(D.take m++D.drop m).countP (λp=>decide (sW D p<m)):=by rw[List.take_append_drop]
  _=m:=by rw[List.countP_append,a,b];rfl
theorem arJ (l:List Pt) (hl:l.length<1000000000000):PF Tryz.prog 241 [.seq (l.map Pt.cells)] (.seq ((cS l).map Pt.cells)):=by
 refine azO akJ λst=> ?_
 by_cases hok:Whole l/\l.length<=2000
 ·obtain ⟨hW,h2000⟩:=hok
  obtain ⟨hp,hs⟩:=fZ hW h2000
  obtain ⟨D,hD⟩:∃D,cS l=D:=⟨_,rfl⟩
  rw [hD] at hp hs⊢
  have hDn:(D.map aG).Nodup:=(hp.map aG).nodup_iff.2 hW.nodup
  have hDl:D.length=l.length:=hp.length_eq
  have hpos:∀p∈l,∃(j:Nat) (hj:j<D.length),D[j]=p/\sW D p=j:=λp hpm=>by
   obtain ⟨j,hj,e⟩:=zgo (hp.symm.subset hpm)
   exact ⟨j,hj,e,by rw [<-e,sW,gN hDn hj]⟩
  have hlt:∀p∈l,∀q∈l,(sW D p<sW D q↔ltP l p q):=λp hpm q hqm=>by
   obtain ⟨i,hi,e1,p1⟩:=hpos p hpm
   obtain ⟨j,hj,e2,p2⟩:=hpos q hqm
   have hPw:=List.pairwise_iff_getElem.1 hs
   rw [p1,p2]
   constructor
   ·intro h;rw [<-e1,<-e2];exact hPw i j hi hj (by omega)
   ·intro h
    rcases Nat.lt_trichotomy i j with k|k|k
    ·omega
    ·subst k;rw [<-e1,<-e2] at h;exact absurd h (axT hW.named _)
    ·have:=hPw j i hj hi k;rw [e1,e2] at this;exact (aqI hW.named h this).elim
  have hwl:eZ l=true:=(eB l).2 hW
  have hsp:=rT l hl
  rw [hwl] at hsp
  refine pC Tryz.func241 rfl ?_
  (repeat' first|apply wZ;rfl|show Cn _;constructor|(apply hsp)|(apply aGJ pk Pt.zero (f:=Pt.cells) (n:=l.length) (B:=96);(iterate 11 rfl);(focus (simp;done));(focus (simp;done));exact xY;omega;omega;intro id hid)|apply wY;rfl|simp only [zql];omega|(intro h;simp at h))
  have hid:st id=none:=hid
  refine aC (X:={x:Nat×List Pt//x.1<=l.length/\x.2.length=l.length/\∀j (h:j<x.1) (h2:j<l.length) (m:Nat),sW D (l[j]'h2)=(m:Int)->x.2[m]?=some (l[j]'h2)}) (λi=>((((St.nil 51 (upd st id (some (.arr 177 (i.1.2.map Pt.cells))))).pv 0 (.seq (l.map Pt.cells))).pv 4 (.vec id 11 0 l.length)).pv 5 ((vi ((i.1.1:Nat)))))) (λi=>l.length-i.1.1) ⟨(0,List.replicate l.length Pt.zero),by simp,by simp,by simp⟩ ?_ (λi=> ?_)
  ·(repeat' first|show Cn (.t _ _);exact Cn.t0|show Cn _;constructor|exact rfl)
  obtain ⟨⟨i,O⟩,hi,hO,hinv⟩:=i
  simp only at hi hO hinv
  dsimp only
  by_cases him:i<l.length
  ·obtain ⟨f,hf⟩:∃f:Pt->Bool,f=λp=>decide (sW D p<sW D (l[i]'him)):=⟨_,rfl⟩
   (repeat' first|apply wZ;rfl|show Cn _;constructor|simp only [zql];omega|(intro h;simp at h))
   refine aC (X:={k:Nat//k<=l.length}) (λy=>((((((St.nil 51 (upd st id (some (.arr 177 (O.map Pt.cells))))).pv 0 (.seq (l.map Pt.cells))).pv 4 (.vec id 11 0 l.length)).pv 5 ((vi ((i:Nat))))).pv 6 ((vi ((((l.take y.1).countP f:Nat):Int))))).pv 7 ((vi ((y.1:Nat)))))) (λy=>l.length-y.1) ⟨0,by omega⟩ ?_ (λy=> ?_)
   ·(repeat' first|show Cn (.t _ _);exact Cn.t0|show Cn _;constructor|exact rfl)
   obtain ⟨k,hk⟩:=y
   dsimp only
   have hcl:(l.take k).countP f<=k:=Nat.le_trans (List.countP_le_length) (by rw [zlt];omega)
   by_cases hkl:k<l.length
   ·have hstep:(l.take (k+1)).countP f=(l.take k).countP f+if f (l[k]'hkl)=true then 1 else 0:=by
     rw [List.take_succ_eq_append_getElem hkl,List.countP_append];simp [List.countP_singleton]
    obtain ⟨s,hs1⟩:=Anc.ex hW _ (l[k]'hkl) (zgm hkl) (Nat.le_refl _)
    obtain ⟨t,ht1⟩:=Anc.ex hW _ (l[i]'him) (zgm him) (Nat.le_refl _)
    have hb:f (l[k]'hkl)=true↔gF s t:=by
     rw [hf,zde,hlt _ (zgm hkl) _ (zgm him)]
     constructor
     ·rintro ⟨s',t',h1,h2,h3⟩;rw [hs1.fn hW.named h1,ht1.fn hW.named h2];exact h3
     ·exact λh=>⟨s,t,hs1,ht1,h⟩
    have hself:k=i->f (l[k]'hkl)=false:=λe=>by subst e;rw [hf];simp
    (repeat' first|(refine ⟨⟨k+1,by omega⟩, ?_, ?_⟩)|apply wZ;rfl|show Cn _;constructor|exact rfl|(apply (alN hW hl hkl him hs1 ht1 (f (l[k]'hkl)) hb))|(show _=_;(first|rw [hstep,zp ‹_›];simp;done|rw [hstep,zn (by rw [h];simp)];rfl|rw [hstep,zn (by rw [hself (by omega)];simp)];rfl))|apply wY;rfl|omega|simp only [zql];omega|(intro h;simp at h)|intro h)
   ·obtain ⟨m,hm,hme,hpm⟩:=hpos _ (zgm him)
    have htk:l.take k=l:=ztl (by omega)
    have hc:(l.take k).countP f=m:=by
     rw [htk,<-(hp.countP_eq f),hf,hpm]
     exact aBG hDn m (by omega)
    rw [hc]
    have hmO:m<O.length:=by omega
    have hnext:∀j (h:j<i+1) (h2:j<l.length) (n:Nat),sW D (l[j]'h2)=(n:Int)->(O.set m (l[i]'him))[n]?=some (l[j]'h2):=λj h1 h2 n hn=>by
     by_cases hmn:m=n
     ·subst hmn
      rw [List.getElem?_set_self hmO]
      obtain ⟨j',hj',e1,e2⟩:=hpos _ (zgm h2)
      have:j'=m:=by omega
      subst this
      rw [<-e1,hme]
     ·rw [List.getElem?_set_ne hmn]
      rcases zls.1 h1 with q|q
      ·exact hinv j q h2 n hn
      ·subst q;omega
    (repeat' first|apply stF pk (f:=Pt.cells) (O[m]'hmO) (l[i]'him);rfl;rfl;exact aA _ _ _;rfl;exact zgg hmO;rfl;rfl|(refine ⟨⟨(i+1,O.set m (l[i]'him)),by simp only;omega,by simp only [List.length_set];exact hO,hnext⟩, ?_, ?_⟩)|show Cn (.t _ _);exact .any (cN (by (((simp only [St.pv,St.put,St.sst,St.setv,St.nil,St.var,eI]);(done)))))|apply wZ;rfl|show Cn _;constructor|exact rfl|apply ixA pk;(iterate 5 rfl);rotate_left;rfl;(intro hw;(exact (show _=((m:Nat):Int) from by omega)));(intro hw;(omega));rfl;(exact Nat.zero_add _)|apply wI;rfl|apply gE;omega|omega|simp only [zql];omega|(intro h;simp at h))
  ·have hOD:O=D:=by
    apply List.ext_getElem?
    intro m
    by_cases hm:m<D.length
    ·obtain ⟨j,hj,e⟩:=zgo (hp.subset (zgm hm))
     have:=hinv j (by omega) hj m (by rw [e,sW,gN hDn hm])
     rw [this,e,zgg hm]
    ·rw [List.getElem?_eq_none (by omega),List.getElem?_eq_none (by omega)]
   subst hOD
   (repeat' first|show Cn (.r _ _ _);refine .rr ?_;((exact .inl ⟨id,by rw [zql,hO],hid,aA _ _ _,bU hid⟩));done|apply wZ;rfl|show Cn _;constructor|simp only [zql];omega|(intro h;simp at h))
 ·have hno:cS l=[]:=jJ hok
  rw [hno]
  have hw:eZ l=true->¬l.length<=2000:=λh h2=>hok ⟨(eB l).1 h,h2⟩
  have hsp:=rT l hl
  cases hwv:eZ l with
  |false=>
   rw [hwv] at hsp
   refine pC Tryz.func241 rfl ?_
   (repeat' first|(apply Cn.cf;focus ((apply hsp);done))|show Cn (.r _ _ _);refine .rr ?_;((exact .inr ⟨rfl,rfl,zsr _⟩));done|apply wZ;rfl|show Cn _;constructor|apply wY;rfl)
  |true=>
   rw [hwv] at hsp
   have hl2:=hw hwv
   refine pC Tryz.func241 rfl ?_
   (repeat' first|(apply Cn.cf;focus ((apply hsp);done))|show Cn (.r _ _ _);refine .rr ?_;((exact .inr ⟨rfl,rfl,zsr _⟩));done|apply wZ;rfl|show Cn _;constructor|apply wY;rfl|simp only [zql];omega|(intro h;simp at h))
end
section
attribute [local irreducible] Ev PWp
set_option maxRecDepth 10000
set_option maxHeartbeats 4000000
theorem afF(l m:List Pt)(hl:l.length<4611686018427387904):PF Tryz.prog 240 [.seq (l.map Pt.cells), .seq (m.map Pt.cells)] (vb (decide (l=m))):=by
 refine pF Tryz.func240 rfl λst=>?_
 repeat' first|apply wZ;rfl|show Cn _;constructor|exact rfl|show(_:PV)=_;(rw[decide_eq_false λe:l=m=>by subst e;simp at*]);done|intro h;simp at h
 refine aC (X:={x:Nat//x<=l.length/\l.take x=m.take x}) (λi=>((((St.nil 26 st).pv 0 (.seq (l.map Pt.cells))).pv 1 (.seq (m.map Pt.cells))).pv 5 (vi (i.1:Nat)))) (λi=>l.length-i.1) ⟨0,by omega,rfl⟩ ?_ λi=>?_
 ·repeat' first|show Cn _;constructor|exact rfl
 obtain⟨i,hi,a⟩:=i;dsimp only;have b:l.length=m.length:=by omega
 repeat' first|refine⟨⟨i+1,by omega,xM a (by omega) (by omega) (by rw[Pt.ext_iff,Vl.ext_iff,Dt.ext_iff,Dt.ext_iff];simpa[and_assoc]using h)⟩,?_,?_⟩|apply wZ;rfl|show Cn _;constructor|exact rfl|apply KR.mk;kernel_rfl|show(_:PV)=_;(first|rw[aiR (i:=i) (by omega) (by omega) λe=>by simp[e]at h];done|rw[adG a (by omega) (by omega)]);done|apply wI;rfl|apply gE;omega|omega|simp only[zql];omega|intro h;simp at h
theorem rright_spec (c:Cl) (hl:c.parts.length<1000000000000):PF Tryz.prog 168 [.agg c.cells] (vi (rightP c)):=by
 have:=yY c.parts
 have hc:(2000<((c.parts.length:Nat):Int))↔2000<c.parts.length:=by omega
 have hc2:(((c.parts.length:Nat):Int)<=2000)↔¬2000<c.parts.length:=by omega
 refine pF Tryz.func168 rfl (λst=> ?_)
 (repeat' first|apply wZ;rfl|show Cn _;constructor|exact rfl|apply KR.mk;kernel_rfl|((first|apply (rT c.parts hl)|apply (arJ c.parts hl)|apply (afF (cS c.parts) c.parts))<;>(omega))|show (_:PV)=_;(first|(simp only [rightP,Vl.ext_iff,Vl.zero,e0];grind)|(obtain ⟨⟨q1,q2,q3⟩,q4⟩:=‹(_/\_/\_)/\_›;have e1:c.val=Vl.zero:=(Vl.ext_iff _ _).2 ⟨q1,q2,q3⟩;simp only [rightP,e1,q4];grind));done|apply wY;rfl|(intro h;simp at h)|intro h)
theorem acR(l:List Int)(n:Int):iY (l++[n])=(iY l).push (UInt8.ofNat n.toNat):=by unfold iY;rw[List.foldl_append];rfl
theorem adE(l:List Int):(iY l).size=l.length:=by
 induction l using axY with
 |h0=>rfl
 |h1 l n ih=>rw[acR,ByteArray.size_push,ih];simp
theorem aAu(l:List Int)(n:Int):iY l++iY [n]=iY (l++[n]):=by
 rw[acR];have:iY [n]=ByteArray.empty.push (UInt8.ofNat n.toNat):=rfl;rw[this]
 ext1
 simp
theorem rshow_spec (c:Cl) (hl:c.parts.length<1000000000000):PF Tryz.prog 245 [.agg c.cells] (.agg (showP c).cells):=by
 refine pF Tryz.func245 rfl (λst=> ?_)
 (repeat' first|apply wZ;rfl|show Cn _;constructor|exact rfl|(apply (rright_spec c hl))|show (_:PV)=_;(rw [showP,zn ‹_›];rfl);done|apply wY;rfl|intro h)
 have h0:rightP c=0:=h
 have hb:=λp (hp:p∈c.parts)=>aqP ((iE h0).2.2.1.formed p hp)
 refine aC (X:={x:Nat×List Int//x.1<=c.parts.length/\x.2.length<=200/\qX (c.parts.drop x.1) x.2=qX c.parts []}) (λi=>(((((St.nil 44 st).var 1 116 (c.cells)).var 2 60 ([(vi (0)),(vi (0)),(vs (e0))])).pv 4 ((vs (iY i.1.2)))).pv 5 ((vi ((i.1.1:Nat)))))) (λi=>c.parts.length-i.1.1) ⟨(0,[]),by simp,by simp,rfl⟩ ?_ (λi=> ?_)
 ·(repeat' first|show Cn _;constructor|exact rfl)
 obtain ⟨⟨i,acc⟩,hi,ha,hinv⟩:=i
 simp only at hi ha hinv
 dsimp only
 have hz:=adE acc
 have hs:=λh:i<c.parts.length=>aaV h acc
 have hb2:=λh:i<c.parts.length=>hb _ (zgm h)
 by_cases him:i<c.parts.length
 ·have hs:=hs him
  obtain ⟨hb3,hb4⟩:=hb2 him
  have hz1:(iY [(c.parts[i]'him).val.n]).size=1:=adE _
  (repeat' first|((refine ⟨⟨(i+1,acc++[(c.parts[i]'him).val.n]),by simp only;omega,by simp only [zla,List.length_singleton];omega,by rw [<-hinv,hs,zp ⟨h.1,by omega⟩]⟩, ?_,by simp only;omega⟩);focus ((repeat' first|show Cn _;constructor|exact rfl|rw [aAu]);done))|((refine ⟨⟨(i+1,acc),by simp only;omega,ha,by rw [<-hinv,hs,zn (λq=>by have:=h q.1;omega)]⟩, ?_,by simp only;omega⟩);focus ((repeat' first|show Cn _;constructor|exact rfl);done))|apply wZ;rfl|show Cn _;constructor|exact rfl|apply cvA pk.htt;(iterate 5 rfl);(refine ⟨?_, ?_⟩<;>(omega));rfl|apply aKk pk [(c.parts[i]'him).val.n];(iterate 6 rfl);rotate_left;rfl;rfl|apply aLp;rfl;rfl;rfl;rotate_left;rfl;(intro _;omega);rfl|apply wI;rfl|apply gE;omega|omega|simp only [zql];omega|(intro h;simp at h))
 ·(repeat' first|apply wZ;rfl|show Cn _;constructor|exact rfl|show (_:PV)=_;(rw [showP,zp h0,<-hinv,List.drop_eq_nil_of_le (by omega)];rfl);done|simp only [zql];omega|(intro h;simp at h))
end
end Go.Proofs.YtnogfoojjaainaaGreatDoor.T
namespace Go.Proofs.YtnogfoojjaainaaGreatDoor
open Go Go.Abs Go.ChangeShapes Go.WideShapes Go.ChangeAt Go.RowKit
set_option maxRecDepth 10000
theorem aK9{N n:Nat}{ps:List PV}(h:bQ Tryz.prog N n 36 ps):∃v:T.Sp,ps=v.cells:=by
 obtain⟨m,f,_,rfl,e⟩:=cA aS rfl h;cases e with|cons ha e=>cases e with|cons hb e=>cases e with|cons hc e=>cases e with|nil=>
 obtain⟨a,rfl,_⟩:=bO aS rfl ha;obtain⟨b,rfl,_⟩:=bO aS rfl hb;obtain⟨c,rfl,_⟩:=bO aS rfl hc;exact⟨⟨a,b,c⟩,rfl⟩
def OpN(o:Ot):Prop:=o.row.length<200000000000000
theorem aLa{n:Nat}{ps:List PV}(h:bQ Tryz.prog reachBytes n 71 ps):∃o:Ot,ps=o.cells/\OpN o:=by
 obtain⟨m,i,_,rfl,b⟩:=cA aS rfl h;cases b with|cons h0 b=>cases b with|cons h1 b=>cases b with|cons h3 b=>cases b with|cons h4 b=>cases b with|cons h5 b=>cases b with|cons h6 b=>cases b with|cons h7 b=>cases b with|cons h8 b=>cases b with|nil=>
 obtain⟨k,rfl,_⟩:=bO aS rfl h0;obtain⟨t,rfl,_⟩:=bO aS rfl h1;obtain⟨y,rfl,_⟩:=bO aS rfl h3;obtain⟨c,rfl,_⟩:=bO aS rfl h4;obtain⟨_,rows,_,rfl,j,g⟩:=cI aS rfl h5;obtain⟨r,rfl,hl,_⟩:=zY (f:=Vl.cells) (Q:=λ_=>True) λx hx=>by
  obtain⟨v,e⟩:=aoR (g x hx);exact⟨v,e,trivial⟩
 obtain⟨v,rfl⟩:=aoR h6;obtain⟨d,rfl⟩:=axE h7;obtain⟨a,rfl,_⟩:=bO aS rfl h8;have h:reachBytes<200000000000000:=by decide
 exact⟨⟨k,t,y,c,r,v,d,a⟩,rfl,by show r.length<_;omega⟩
theorem aJb{n:Nat}{ps:List PV}(h:bQ Tryz.prog reachBytes n 34 ps):∃v:{l:List Ot//l.length<200000000000000/\∀o∈l,OpN o},ps=[.seq (v.1.map Ot.cells)]:=by
 obtain⟨_,rows,_,rfl,b,a⟩:=cI aS rfl h;obtain⟨l,rfl,hl,hq⟩:=zY (f:=Ot.cells) λx hx=>aLa (a x hx);have h:reachBytes<200000000000000:=by decide
 exact⟨⟨l,by omega,hq⟩,rfl⟩
theorem aKI{n:Nat}{ps:List PV}(h:bQ Tryz.prog reachBytes n 38 ps):∃v:{l:List Int//l.length<200000000000000},ps=[.seq (v.1.map I1)]:=by
 obtain⟨_,rows,_,rfl,b,a⟩:=cI aS rfl h;obtain⟨l,rfl,hl,_⟩:=zY (f:=I1) (Q:=λ_=>True) λx hx=>by
  obtain⟨v,e,_⟩:=bO aS rfl (a x hx);exact⟨v,e,trivial⟩
 have h:reachBytes<200000000000000:=by decide
 exact⟨⟨l,by omega⟩,rfl⟩
end Go.Proofs.YtnogfoojjaainaaGreatDoor
namespace Go.Proofs.YtnogfoojjaainaaGreatDoor
open Go Go.Abs
attribute [local irreducible] Ev PWp
set_option maxRecDepth 10000
set_option maxHeartbeats 4000000
theorem aCl(t:Tb)(k:Nat)(hl:t.cols.length<200000000000000)(hk:k<t.cols.length):PF Tryz.prog 234 [.agg t.cells,vi (k:Nat)] (vi (tG t k)):=by
 have hn:=afK t.cols[k].name;have e:tG t k=aiT (t.cols.take k) t.cols[k]:=by unfold tG;rw[getElem!_pos t.cols k hk]
 rw[e];unfold aiT;generalize pY t.cols[k].name=N at*;refine pF Tryz.func234 rfl λst=>?_
 focus(repeat' first|apply wZ;rfl|show Cn _;constructor|exact rfl|apply hn|show(_:PV)=_;(rw[zp (by grind)]);done|apply wY;rfl|apply wI;rfl|apply gE;omega|intro h;simp at h)
 refine aC (X:={x:Nat//x<=k/\∀j (h:j<t.cols.length),j<x->t.cols[j].name≠t.cols[k].name}) (λi=>(((((St.nil 78 st).pv 1 (vi (k:Nat))).var 2 57 (t.cells)).var 5 109 (t.cols[k].cells)).pv 6 (vi (i.1:Nat)))) (λi=>k-i.1) ⟨0,by omega,by omega⟩ ?_ λi=>?_
 ·repeat' first|show Cn _;constructor|exact rfl
 obtain⟨i,hi,f⟩:=i;dsimp only;by_cases g:k<=i;have ha:((t.cols.take k).any λx=>decide (x.name=t.cols[k].name))=false:=by
  rw[<-Bool.not_eq_true,List.any_eq_true];rintro⟨x,hx,a⟩;obtain⟨j,hj,rfl⟩:=zgo hx;rw[zlt]at hj;rw[List.getElem_take,zde]at a;exact f j (by omega) (by omega) a
 rw[ha];rotate_left;have m:i<t.cols.length:=by omega
 by_cases hq:t.cols[i].name=t.cols[k].name;have ha:((t.cols.take k).any λx=>decide (x.name=t.cols[k].name))=true:=List.any_eq_true.2 ⟨t.cols[i],List.mem_iff_getElem.2 ⟨i,by rw[zlt];omega,by rw[List.getElem_take]⟩,by rw[zde];exact hq⟩;rw[ha];rotate_left;have c:∀j (h:j<t.cols.length),j<i+1->t.cols[j].name≠t.cols[k].name:=λj hj b=>by
  rcases zls.1 b with w|w
  ·exact f j hj w
  ·subst w;exact hq
 rotate_left
 all_goals (repeat' first|refine⟨⟨i+1,by omega,c⟩,?_,?_⟩|apply wZ;rfl|show Cn _;constructor|exact rfl|apply KR.mk;kernel_rfl|show(_:PV)=_;(congr 2;grind);done|apply wI;rfl|apply gE;omega|omega|simp only[zql];omega|exfalso;grind|intro h;simp at h|intro h)
theorem sN(t:Tb)(i:Int):PF Tryz.prog 298 [.agg t.cells,vi i] (.tup [vb (gP t i),vb (gP t i&&gH (fK t i))]):=by
 cases hh:gP t i with
 |false=>
  unfold gP at hh;simp only[Bool.and_eq_false_iff,decide_eq_false_iff_not]at hh;refine pF Tryz.func298 rfl λst=>?_
  (repeat' first|apply wZ;rfl|show Cn _;constructor|exact rfl|intro h;simp at h;omega|intro h;simp at h)
 |true=>
  obtain⟨j,rfl,hj,e⟩:=sF hh;rw[e];have a:1<=j:=by unfold gP at hh;simp at hh;omega
  refine pF Tryz.func298 rfl λst=>?_
  repeat' first|apply wZ;rfl|show Cn _;constructor|exact rfl|apply KR.mk;kernel_rfl|apply wI;rfl|apply gE;omega|intro h;simp at h;omega|intro h;simp at h
theorem aBz(t:Tb)(k:Nat)(hl:t.cols.length<200000000000000)(hu:t.unique.length<200000000000000)(hk:k<t.unique.length):PF Tryz.prog 235 [.agg t.cells,vi (k:Nat)] (vi (sX t k)):=by
 have hh:=sN t t.unique[k];have e:sX t k=aeX (gP t t.unique[k]) (decide (0<k)&&decide (t.unique[k]<=t.unique[k-1]'(by omega))) (gH (fK t t.unique[k])):=by
  unfold sX;rw[getElem!_pos t.unique k hk,getElem!_pos t.unique (k-1) (by omega)]
 rw[e];unfold aeX;generalize gP t t.unique[k]=H at*;generalize gH (fK t t.unique[k])=N at*;rcases Nat.eq_zero_or_pos k with rfl|a
 refine pF Tryz.func235 rfl λst=>?_;rotate_left;refine pF Tryz.func235 rfl λst=>?_;rotate_left
 all_goals (repeat' first|apply iX;(intro hw;exact(show _=((0:Nat):Int)from by exact(kJ hw).elim));(apply gE;omega);rfl|apply iX;(intro hw;exact(show _=(((k-1:Nat)):Int)from by omega));(apply gE;omega);rfl|apply wZ;rfl|show Cn _;constructor|exact rfl|apply KR.mk;kernel_rfl|apply hh|show(_:PV)=_;(congr 2;grind);done|apply wY;rfl|apply wI;rfl|apply gE;omega|omega|intro h;simp at h|intro h)
end Go.Proofs.YtnogfoojjaainaaGreatDoor
