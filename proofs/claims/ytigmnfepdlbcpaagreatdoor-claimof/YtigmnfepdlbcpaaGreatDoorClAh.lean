import Derived.Test.YtigmnfepdlbcpaaGreatDoorClCa
import Derived.Test.YtigmnfepdlbcpaaGreatDoorClAg
import Derived.SizedLaws
import Derived.LaidMore
import Derived.LaidOnce
import Derived.LaidHandle
set_option linter.all false
set_option maxHeartbeats 4000000
set_option maxRecDepth 10000
namespace Go.Proofs.YtigmnfepdlbcpaaGreatDoor.T
open Go Go.Abs Proofs.Tryz
attribute [local irreducible] Ev PWp
theorem rtnew_spec :qf 169 [] (.agg (Cl.mk 4 Vl.zero []).z):=by
 refine pF func169 rfl λst=>?_
 repeat' first|exact Cn.any ⟨_,_,_,rfl,wkN _,zsr _,rfl,rfl⟩|apply wZ;rfl|constructor
theorem aEh(c:Cl)(d:Dt)(at_:Int)(st:aD)(hl:c.p.length<1000000000):qc 172 [.agg c.z, .agg d.z,vi at_] st (aeH st (eraseP c ⟨d,at_⟩)):=by
 have hn:=λp:Pt=>aF7 p d at_;unfold aeH eraseP;dsimp only;refine pC func172 rfl ?_
 focus(repeat' first|apply wZ;rfl|constructor)
 refine jS 7 154 11 [_,_,_,_] rfl rfl rfl λid a=>?_;have a:st id=none:=a;refine aC (X:={x:Nat×Nat//x.1<=c.p.length/\st x.2=none}) (λi=>(((((((St.nil 45 (upd st i.1.2 (some (.arr 154 ((fY ⟨d,at_⟩ (c.p.take i.1.1)).map Pt.z))))).pv 2 (vi at_)).var 3 92 (c.z)).var 4 51 (d.z)).var 6 92 ([vi 0,vi 0,vi 0,vs e0, .val (.slice none 0 0)])).var 7 92 ([vi c.k,vi c.val.k,vi c.val.n,vs c.val.s, .vec i.1.2 11 0 i.1.1])).pv 8 (vi (i.1.1:Nat)))) (λi=>c.p.length-i.1.1) ⟨(0,id),by simp,a⟩ ?_ λi=>?_;rotate_left;obtain⟨⟨i,id⟩,hi,a⟩:=i;simp only at hi a;dsimp only;by_cases m:c.p.length<=i;obtain rfl:i=c.p.length:=by omega
 rw[List.take_length];have e:(fY ⟨d,at_⟩ c.p).length=c.p.length:=by simp[fY]
 rw[e];rotate_left;have l:i<c.p.length:=by omega
 have hn:=hn c.p[i];have e:fY ⟨d,at_⟩ (c.p.take (i+1))=fY ⟨d,at_⟩ (c.p.take i)++[if aH c.p[i]=⟨d,at_⟩then aeC c.p[i]else c.p[i]]:=by
  unfold fY;rw[zts l,zmd];rfl
 have u:(fY ⟨d,at_⟩ (c.p.take i)).length=i:=by unfold fY;rw[zql,zlt];omega
 generalize fY ⟨d,at_⟩ (c.p.take i)=K at*;by_cases g:aH c.p[i]=⟨d,at_⟩;rw[zp g]at e;have hn:=hn.1 g;unfold aH at hn;dsimp only at hn;rotate_left;rw[zn g]at e;have hn:=λq=>g (hn.2 q);unfold aH at hn;dsimp only at hn
 all_goals (repeat' first|refine⟨⟨(i+1,k),by simp only;omega,aI j⟩,?_,?_⟩;dsimp only;rw[e]|exact Cn.any (aM ‹_›)|refine Cn.rr ?_;exact⟨id,rfl,a,rfl⟩;done|apply wZ;rfl|exact Cn.t0|omega|constructor|simp<;>omega|intro h;simp at h|exact rfl|apply apV pk (f:=Pt.z) [c.p[i]] 96;(iterate 9 rfl);exact aA _ _ _;omega;exactλ_=>rfl;exactλ_=>rfl;exact fR;(focus(simp;omega));(focus(simp;omega));rfl;intro k j|apply apV pk (f:=Pt.z) [aeC c.p[i]] 96;(iterate 9 rfl);exact aA _ _ _;omega;exactλ_=>rfl;exactλ_=>rfl;exact fR;(focus(simp;omega));(focus(simp;omega));rfl;intro k j|apply wI;rfl|apply gE;omega|exfalso;grind)
theorem rerase_spec(c:Cl)(d:Dt)(at_:Int)(hl:c.p.length<1000000000):qf 172 [.agg c.z, .agg d.z,vi at_] (.agg (eraseP c ⟨d,at_⟩).z):=yP λst=>aEh c d _ _ hl
theorem aAH{c:Cl}(h:rightP c=0):c.k=4/\c.val=Vl.zero:=by
 unfold rightP at h
 grind
theorem rtype_spec(c:Cl)(s:ByteArray)(w:Sp)(d:Dt)(at_:Int)(hl:c.p.length<1000000000)(hs:s.size<1000000):qf 168 [.agg c.z,vs s, .agg w.z, .agg d.z,vi at_] (sR (typeP c s w ⟨d,at_⟩)):=by
 intro st;have V:=rright_spec c (by omega);have W:=aaM ⟨w.dev,w.seq⟩ 0;by_cases O:rightP c≠0
 ·have e:typeP c s w ⟨d,at_⟩=(Cl.zero,rightP c):=by unfold typeP;rw[zp O]
  rw[e];generalize rightP c=R at*;refine pC func168 rfl ?_
  repeat' first|exact Cn.any ⟨_,_,_,rfl,apU _,zsr _,rfl,rfl⟩|apply wZ;rfl|omega|constructor|apply V|apply wY;rfl|intro h
 have O:=zdn O;have⟨hk4,hv0⟩:=aAH O;have hW:=(gJ O).2.2.1;have hwr:=yK (c:=c) (w:=w) hW.formed;have I:bT c w=if withinB w.m 1 1125899906842624=true/\mayN ⟨⟨w.dev,w.seq⟩,0⟩=true then wrF ⟨w.dev,w.seq⟩ w.m c.p 0 else-1:=rfl
 have E:bT c w<0->typeP c s w ⟨d,at_⟩=(Cl.zero,1):=λq=>by unfold typeP;rw[zn (by omega),zp q]
 have N:withinB w.m 1 1125899906842624=true↔w.m>=1/\w.m<=1125899906842624:=by unfold withinB;simp
 rw[O]at V;by_cases u:¬(withinB w.m 1 1125899906842624=true/\mayN ⟨⟨w.dev,w.seq⟩,0⟩=true)
 ·rw[zn u]at I
  rw[E (by omega)];rw[N]at u;generalize mayN ⟨⟨w.dev,w.seq⟩,0⟩=M at*;refine pC func168 rfl ?_
  repeat' first|exact Cn.any ⟨_,_,_,rfl,apU _,zsr _,rfl,rfl⟩|apply wZ;rfl|constructor|(first|apply V|apply W)|apply wY;rfl|exfalso;grind|intro h;simp at h
 have u:=zdn u;rw[zp u]at I;rw[N]at u;obtain⟨⟨ht1,ht2⟩,hm⟩:=u;rw[hm]at W;have B:=sY c.p d at_ (by omega);have A:=λp:Pt=>lR p;refine pC func168 rfl ?_
 focus(repeat' first|apply Cn.cf;focus(((first|apply V|apply W));done)|apply wZ;rfl|constructor|apply wY;rfl|intro h;simp at h;omega|intro h;simp at h)
 refine aC (X:={x:Nat×Int//x.1<=c.p.length/\0<=x.2/\x.2<=2000/\wrF ⟨w.dev,w.seq⟩ w.m (c.p.drop x.1) x.2=bT c w}) (λi=>((((((((((St.nil 171 st).pv 1 (vs s)).pv 4 (vi at_)).var 5 92 (c.z)).var 7 30 (w.z)).var 8 51 (d.z)).var 10 92 ([vi 0,vi 0,vi 0,vs e0, .val (.slice none 0 0)])).var 13 51 ([vi w.dev,vi w.seq])).pv 15 (vi i.1.2)).pv 16 (vi (i.1.1:Nat)))) (λi=>c.p.length-i.1.1) ⟨(0,0),by simp,by simp,by simp,by rw[I];rfl⟩ ?_ λi=>?_
 ·repeat' first|constructor
 obtain⟨⟨i,n⟩,hi,S,U,g⟩:=i;simp only at hi S U g;dsimp only;by_cases z:i<c.p.length
 ·have hs:=awL (d:=⟨w.dev,w.seq⟩) (t:=w.m) (n:=n) z
  have hb:=mZ (hW.formed _ (zgm z));have hd:=Dt.ext_iff c.p[i].d ⟨w.dev,w.seq⟩;rw[hs]at g;by_cases r:c.p[i].d≠⟨w.dev,w.seq⟩
  ·rw[zp r]at g
   have r:¬(c.p[i].d.dev=w.dev/\c.p[i].d.seq=w.seq):=λq=>r (hd.2 q)
   repeat' first|refine⟨⟨(i+1,n),by simp only;omega,S,U,g⟩,?_,?_⟩|apply wZ;rfl|apply KR.mk;kernel_rfl|omega|constructor|apply wI;rfl|apply gE;omega|simp<;>omega|intro h;simp at h;omega|intro h;simp at h
  ·rw[zn r]at g
   have r:=hd.1 (zdn r);have⟨q1,q2⟩:=r;dsimp only at q1 q2;by_cases htt:c.p[i].m≠w.m
   ·rw[zp htt]at g
    rw[E (by omega)]
    repeat' first|exact Cn.any ⟨_,_,_,rfl,apU _,zsr _,rfl,rfl⟩|apply wZ;rfl|apply KR.mk;kernel_rfl|omega|constructor|apply wI;rfl|apply gE;omega|simp<;>omega|intro h;simp at h;omega|intro h;simp at h|intro h
   ·rw[zn htt]at g
    have htt:=zdn htt
    repeat' first|refine⟨⟨(i+1,max n (c.p[i].a+1)),by simp only;omega,by simp only;omega,by simp only;omega,g⟩,?_,?_⟩|apply wZ;rfl|apply KR.mk;kernel_rfl|omega|constructor|apply wI;rfl|apply gE;omega|simp<;>omega|intro h;simp at h;omega|intro h;simp at h|intro h
 rw[List.drop_eq_nil_of_le (by omega)]at g;have hn:n=bT c w:=g;subst hn;by_cases L:200<s.size\/2000<c.p.length+s.size\/2000<bT c w+s.size
 ·have e:typeP c s w ⟨d,at_⟩=(Cl.zero,2):=by unfold typeP;rw[zn (by omega),zn (by omega),zp L]
  rw[e]
  repeat' first|exact Cn.any ⟨_,_,_,rfl,apU _,zsr _,rfl,rfl⟩|apply wZ;rfl|omega|constructor|simp<;>omega|intro h;simp at h;omega|intro h;simp at h
 have K:eA c w ⟨d,at_⟩≠0->typeP c s w ⟨d,at_⟩=(Cl.zero,eA c w ⟨d,at_⟩):=λq=>by unfold typeP;rw[zn (by omega),zn (by omega),zn L,zp q]
 have m:eA c w ⟨d,at_⟩=0->typeP c s w ⟨d,at_⟩=({c with p:=cM (c.p++tyF w s.data.toList (bT c w) ⟨d,at_⟩)},0):=λq=>by unfold typeP;rw[zn (by omega),zn (by omega),zn L,zn (by omega)]
 have hz:(⟨d,at_⟩:Nm)=Nm.zero↔(d.dev=0/\d.seq=0)/\at_=0:=by rw[Nm.ext_iff,Dt.ext_iff];rfl
 have y:=λh=>adW (c.p++tyF w s.data.toList (bT c w) ⟨d,at_⟩) h;obtain⟨j,H⟩:∃t,tyF w s.data.toList (bT c w) ⟨d,at_⟩=t:=⟨_,rfl⟩;have hty0:j.length=s.size:=by rw[<-H,aaE];rfl
 rw[H]at y;have y:=y (by rw[zla];omega);by_cases a:eA c w ⟨d,at_⟩≠0
 ·rw[K a]
  unfold eA at a⊢;by_cases v:(⟨d,at_⟩:Nm)=Nm.zero
  ·rw[zp v]at a;exact absurd rfl a
  rw[zn v]at a⊢;rw[hz]at v;unfold atP at B;cases J:c.p.findIdx? (λp=>decide (aH p=⟨d,at_⟩))with
  |none=>
   rw[J]at B;dsimp only at B⊢
   (repeat' first|exact Cn.any ⟨_,_,_,rfl,apU _,zsr _,rfl,rfl⟩|apply wZ;rfl|omega|constructor|apply B|apply wY;rfl|simp<;>omega|intro h;simp at h;omega|intro h;simp at h)
  |some k=>
   have⟨hk,_⟩:=zfi.1 J;rw[J]at B a;simp only[zgg hk]at a⊢;have h4:=kK (aK c.p[k]) w;have A:=A c.p[k];have Z:=Sp.ext_iff (aK c.p[k]) w;by_cases hc:aK c.p[k]≠w/\gD (aK c.p[k]) w=false
   ·rw[zp hc]
    have⟨c1,c2⟩:=hc;rw[c2]at h4;rw[ne_eq,Z]at c1;generalize aK c.p[k]=X at*
    repeat' first|exact Cn.any ⟨_,_,_,rfl,apU _,zsr _,rfl,rfl⟩|apply wZ;rfl|apply KR.mk;kernel_rfl|omega|constructor|(first|apply B|apply A|apply h4)|apply wY;rfl|apply wI;rfl|apply gE;omega|simp<;>omega|intro h;simp at h;omega|intro h;simp at h
   ·rw[zn hc]at a;exact absurd rfl a
 have a:=zdn a;have m:=m a;rw[H,show({c with p:=cM (c.p++j)}:Cl)=⟨4,Vl.zero,cM (c.p++j)⟩from by rw[<-hk4,<-hv0]]at m;rw[m];clear E K m g N I;by_cases v:(⟨d,at_⟩:Nm)=Nm.zero;rw[hz]at v;clear B a
 focus(repeat' first|apply wZ;rfl|omega|constructor|apply ap0 pk (f:=Pt.z) c.p 96;(iterate 10 rfl);exactλ_=>rfl;exactλ_=>rfl;exact fR;omega;omega;rfl;intro F l|simp<;>omega|intro h;simp at h;omega|intro h;simp at h)
 rotate_left;unfold eA at a;rw[zn v]at a;rw[hz]at v;unfold atP at B;obtain⟨k,J⟩:∃k,c.p.findIdx? (λp=>decide (aH p=⟨d,at_⟩))=some k:=by
  cases J:c.p.findIdx? (λp=>decide (aH p=⟨d,at_⟩))with
  |none=>rw[J]at a;cases a
  |some k=>exact⟨k,rfl⟩
 have⟨hk,_⟩:=zfi.1 J;rw[J]at B a;simp only[zgg hk]at a;have B:qf 257 [.seq (c.p.map Pt.z), .agg d.z,vi at_] (vi (k:Nat)):=B;have h4:=kK (aK c.p[k]) w;have A:=A c.p[k];have Z:=Sp.ext_iff (aK c.p[k]) w;by_cases hc:aK c.p[k]≠w/\gD (aK c.p[k]) w=false;rw[zp hc]at a;cases a
 rw[ne_eq,Z]at hc;generalize aK c.p[k]=X at*;generalize gD X w=Y at*
 focus(repeat' first|apply Cn.cf;focus(((first|apply B|apply A|apply h4));done)|apply wZ;rfl|apply KR.mk;kernel_rfl|omega|constructor|apply ap0 pk (f:=Pt.z) c.p 96;(iterate 10 rfl);exactλ_=>rfl;exactλ_=>rfl;exact fR;omega;omega;rfl;intro F l|apply wY;rfl|apply wI;rfl|apply gE;omega|simp<;>omega|exfalso;grind|intro h;simp at h;omega|intro h;simp at h)
 all_goals
  have C:st F=none:=l
  clear l
  refine aC (X:={x:Nat×Nat//x.1<=s.size/\st x.2=none}) (λi=>((((((((((St.nil 171 (upd st i.1.2 (some (.arr 154 ((c.p++j.take i.1.1).map Pt.z))))).pv 1 (vs s)).pv 4 (vi ((upI w (bT c w) ⟨d,at_⟩ i.1.1).a))).var 7 30 (w.z)).var 8 51 ([vi ((upI w (bT c w) ⟨d,at_⟩ i.1.1).d.dev),vi ((upI w (bT c w) ⟨d,at_⟩ i.1.1).d.seq)])).var 10 92 ([vi 0,vi 0,vi 0,vs e0, .val (.slice none 0 0)])).var 13 51 ([vi w.dev,vi w.seq])).pv 15 (vi (bT c w))).pv 19 (.vec i.1.2 11 0 (c.p.length+i.1.1))).pv 20 (vi (i.1.1:Nat)))) (λi=>s.size-i.1.1) ⟨(0,F),by simp,C⟩ ?_ λi=>?_
  ·dsimp only
   rw[List.take_zero,List.append_nil]
   repeat' first|exact Cn.t0|constructor
  obtain⟨⟨i,id⟩,hi,C⟩:=i
  simp only at hi C
  dsimp only
  have Q:(c.p++j.take i).length=c.p.length+i:=by rw[zla,zlt];omega
  have D:((c.p++j.take i).map Pt.z).length=c.p.length+i:=by rw[zql,Q]
  by_cases z:i<s.size
  ·have hb:s[i]?=some s[i]:=getElem?_pos s i z
   have hp:=aqN w s.data.toList (bT c w) ⟨d,at_⟩ i s[i] (by rw[<-hb];simp[z];rfl);rw[H]at hp;have G:j.take (i+1)=j.take i++[tyE w (bT c w) ⟨d,at_⟩ i s[i]]:=by rw[List.take_add_one,hp];rfl
   repeat' first|apply wD pk [16] [];kernel_rfl;rfl;rfl|refine⟨⟨(i+1,F),by simp only;omega,gM l⟩,?_,?_⟩;dsimp only;rw[G,<-zas]|exact Cn.any (aM ‹_›)|apply wZ;rfl|omega|constructor|show _=_;(focus(simp[upI];omega))|apply apV pk (f:=Pt.z) [tyE w (bT c w) ⟨d,at_⟩ i s[i]] 96;(iterate 9 rfl);exact aA _ _ _;omega;exactλ_=>rfl;exactλ_=>rfl;exact fR;(focus(simp;omega));(focus(simp;omega));rfl;intro F l|apply cvA pk.htt;(iterate 5 rfl);(refine⟨?_,?_⟩<;>(first|omega|have q:=(s[i]'z).toNat_lt;omega));rfl|apply sxA pk.htt i s[i];(iterate 6 rfl);exact hb;rfl|simp<;>omega|intro h;simp at h
  ·have P:j.take i=j:=ztl (by omega)
   rw[P]at D⊢
   repeat' first|exact Cn.any ⟨_,_,st,rfl,zwr _,aG (aG (zsr _) C) C,rfl,rfl⟩|apply cP;rfl;apply PC.freezeN [] (aA _ _ _) oU D (y _);rintro _ st' (⟨rfl,rfl⟩)|apply wZ;rfl|omega|constructor|apply wY;rfl|intro h;simp at h
end Go.Proofs.YtigmnfepdlbcpaaGreatDoor.T
namespace Go.Proofs.YtigmnfepdlbcpaaGreatDoor
open Go Go.Abs Proofs.Tryz
variable{s:Sc}{b is was:Bs}{rows:List R2}{i k n y:Nat}{rb:Bool}{t:Tb}{w:Wr}{o:Ot}{N O:List Ln}{L:List P4}{l:List Ot}{A B:List (List PV)}{a c d:List PV}
section
attribute [local irreducible] Ev PWp
def sQ(s:Sc)(b:Bs)(rows:List R2)(k y:Nat):List R2:=((b[k]!.l.take y).filter λl=>inR rows ((k:Int),l.key)||toB s[k]! l (inR rows) 1).map λl=>((k:Int),l.key)
def zH(s:Sc)(b:Bs)(rows:List R2)(k:Nat):List R2:=(List.range k).flatMap (atM s b rows)
theorem aKb(h:y<b[k]!.l.length):sQ s b rows k (y+1)=if(inR rows ((k:Int),b[k]!.l[y].key)||toB s[k]! b[k]!.l[y] (inR rows) 1)=true then sQ s b rows k y++[((k:Int),b[k]!.l[y].key)]else sQ s b rows k y:=by
 unfold sQ;rw[zts h,List.filter_append,xL]
 grind
theorem aBX(s:Sc)(b:Bs)(rows:List R2)(k:Nat):zH s b rows (k+1)=zH s b rows k++sQ s b rows k b[k]!.l.length:=by
 unfold zH;rw[List.range_succ,List.flatMap_append];simp[atM,sQ]
theorem asV(s:Sc)(b:Bs)(rows:List R2)(k y:Nat):(sQ s b rows k y).length<=(b[k]!.l).length:=by
 unfold sQ
 grind
theorem auW(s:Sc)(b:Bs)(rows:List R2){n:Nat}(h:∀k (h:k<b.length),b[k].l.length<=n):∀k,k<=b.length->(zH s b rows k).length<=n*k
 |0,_=>by simp[zH]
 |k+1,hk=>by
  have a:=auW s b rows h k (by omega)
  have c:=asV s b rows k b[k]!.l.length
  rw[aBX,zla]
  grind
structure FolN (s:Sc) (b:Bs) (n:Nat):Prop extends Fol s b where
 ln:∀k (h:k<b.length),b[k].l.length<=n
 nn:n<=100000
theorem aKk(v:FolN s b n)(rows:List R2)(G:rows.length<1000000000000)(st:aD):qc 249 [.agg (scC s), .agg (bsC b), .seq (rows.map r2C)] st λr S=>∃id,r= .vec id 2 0 (qD s b rows).length/\st id=none/\S=upd st id (some (.arr 225 ((qD s b rows).map r2C))):=by
 obtain⟨⟨D,s16,f16,q,F⟩,ln,nn⟩:=v;have A:=auW s b rows ln;refine pC func249 rfl ?_
 focus(repeat' first|apply wZ;rfl|constructor)
 refine cL 7 225 2 rfl rfl rfl λid a=>?_;refine aC (X:={x:Nat×Nat//x.1<=b.length/\st x.2=none}) (λi=>((((((St.nil 59 (upd st i.1.2 (some (.arr 225 ((zH s b rows i.1.1).map r2C))))).pv 2 (.seq (rows.map r2C))).var 3 24 (scC s)).var 4 27 (bsC b)).pv 7 (.vec i.1.2 2 0 (zH s b rows i.1.1).length)).pv 8 (vi (i.1.1:Nat)))) (λi=>b.length-i.1.1) ⟨(0,id),by simp,a⟩ ?_ λi=>?_
 ·dsimp only
  repeat' first|exact Cn.t0|constructor
 obtain⟨⟨i,id⟩,hi,a⟩:=i;simp only at hi a;dsimp only;have N:=A i hi;have O:n*i<=100000*16:=Nat.mul_le_mul nn (by omega);by_cases C:b.length<=i
 ·obtain rfl:i=b.length:=by omega
  repeat' first|refine Cn.rr ?_;exact⟨id,rfl,a,rfl⟩;done|apply wZ;rfl|constructor|simp<;>omega|intro h;simp at h
 have d:i<b.length:=by omega
 have g:i<s.length:=by omega
 have M:=ln i d;have l:=aBX s b rows i;have c:∀y (h:y<b[i].l.length),sQ s b rows i (y+1)=if(inR rows ((i:Int),b[i].l[y].key)||toB s[i] b[i].l[y] (inR rows) 1)=true then sQ s b rows i y++[((i:Int),b[i].l[y].key)]else sQ s b rows i y:=λy h=>by
  have:=aKb (s:=s) (b:=b) (rows:=rows) (k:=i) (y:=y) (by rw[zep b i d];exact h)
  simp only[zep b i d,zep s i g]at this
  exact this
 have m:=q i g;rw[zep b i d]at l m;have j:=λy=>asV s b rows i y;rw[zep b i d]at j
 focus(repeat' first|apply wZ;rfl|constructor|apply wI;rfl|apply gE;omega|simp<;>omega|intro h;simp at h)
 refine aC (X:={x:Nat×Nat//x.1<=b[i].l.length/\st x.2=none}) (λy=>((((((((St.nil 59 (upd st y.1.2 (some (.arr 225 ((zH s b rows i++sQ s b rows i y.1.1).map r2C))))).pv 2 (.seq (rows.map r2C))).var 3 24 (scC s)).var 4 27 (bsC b)).pv 7 (.vec y.1.2 2 0 (zH s b rows i++sQ s b rows i y.1.1).length)).pv 8 (vi (i:Nat))).pv 9 (.seq (b[i].l.map Ln.z))).pv 10 (vi (y.1.1:Nat)))) (λy=>b[i].l.length-y.1.1) ⟨(0,id),by simp,a⟩ ?_ λy=>?_
 ·dsimp only
  have e:zH s b rows i++sQ s b rows i 0=zH s b rows i:=by simp[sQ]
  rw[e]
  repeat' first|exact Cn.t0|constructor
 obtain⟨⟨y,id⟩,hy,a⟩:=y;simp only at hy a;dsimp only;have E:=j y;have L:(zH s b rows i++sQ s b rows i y).length<=10000000:=by rw[zla];omega
 by_cases z:b[i].l.length<=y;obtain rfl:y=b[i].l.length:=by omega
 rw[<-l];rotate_left;have u:y<b[i].l.length:=by omega
 have c:=c y u;have J:=uY rows ((i:Int),b[i].l[y].key) G;have K:=anV s[i] b[i].l[y] rows 1 G (by have:=f16 i g;omega) λf hf=>m f hf _ (zgm u);generalize inR rows ((i:Int),b[i].l[y].key)=H at*;generalize toB s[i] b[i].l[y] (inR rows) 1=I at*;by_cases hk:(H||I)=true;rw[zp hk]at c;have e:zH s b rows i++sQ s b rows i (y+1)=(zH s b rows i++sQ s b rows i y)++[((i:Int),b[i].l[y].key)]:=by rw[c,zas]
 rotate_left;rw[zn hk]at c;rw[<-c];rotate_left
 all_goals (repeat' first|((first|refine⟨⟨(i+1,id),by simp only;omega,a⟩,?_,by simp only;omega⟩|refine⟨⟨(y+1,id),by simp only;omega,a⟩,?_,by simp only;omega⟩);focus((repeat' first|exact Cn.t0|constructor);done))|((refine⟨⟨(y+1,B),by simp only;omega,aI p⟩,?_,by simp only;omega⟩);(dsimp only;try rw[e]);focus((repeat' first|exact Cn.any (aM ‹_›)|constructor|simp;omega);done))|apply wZ;rfl|apply KR.mk;kernel_rfl|omega|constructor|(first|apply J|apply K)|apply apV pk (f:=r2C) [((i:Int),b[i].l[y].key)] 16;(iterate 9 rfl);exact aA _ _ _;omega;exactλ_=>rfl;exactλ_=>rfl;exact aCo;(focus(simp;omega));(focus(simp;omega));rfl;intro B p|apply wY;rfl|apply wI;rfl|apply gE;omega|simp<;>omega|exfalso;simp_all;done|intro h;simp at h)
theorem aEe(a:FolN s b n)(rows:List R2)(d:rows.length<1000000000000):qf 249 [.agg (scC s), .agg (bsC b), .seq (rows.map r2C)] (.seq ((qD s b rows).map r2C)):=λst=>
 eS (aKk a _ d _) λp st' h=>by
  obtain⟨id,rfl,c,rfl⟩:=h
  exact .inl ⟨id,225,(qD s b _).map _,_,st,aA _ _ _,aBp,dI rfl,bN c,rfl,rfl⟩
theorem aDT{z:R2}(j:qf 51 [.agg (scC s), .agg (bsC b)] (vb rb))(m:rb=true->FolN s b n)(p:rb=true->∀k<b.length,KSort b[k]!.l)(hl:(aF b z.1).length<1000000000000)(l:(cC b).length<1000000000):qf 159 [.agg (scC s), .agg (bsC b),vi z.1,vi z.2] (.seq ((if rb=true then aeN s b z else[]).map r2C)):=by
 have hg:=mY b z.1 z.2 hl;rw[mS]at hg;rcases rb with _|_
 rotate_left;rw[zp rfl];have c:=m rfl;have d:=p rfl;unfold aeN;by_cases hz:sS b z=true
 ·rw[zp hz]
  have a:=qH.1 hz;unfold sS at hz;rw[hz]at hg;refine pF func159 rfl λst=>?_
  focus(repeat' first|apply Cn.cf;focus(((first|apply j|apply hg));done)|apply wZ;rfl|constructor|apply wY;rfl)
  refine aC (X:={x:List R2//Mo s b z x}) (λi=>((((St.nil 41 st).var 4 24 (scC s)).var 5 27 (bsC b)).pv 11 (.seq (i.1.map r2C)))) (λi=>(cC b).length-i.1.length) ⟨[z],⟨by simp,by simp,λy hy=>by rw[zms.1 hy];exact .refl⟩⟩ ?_ λi=>?_
  ·repeat' first|constructor
  have⟨rows,hm⟩:=i;dsimp only;have v:=hm.bound a;have f:=aEe c rows (by omega);have u:=hm.le a;have e:=hm.more d a;have q:=e.bound a;have hd:=hm.done c.len d a;generalize qD s b rows=N at*;by_cases r:N.length=rows.length;obtain rfl:=hd r;rotate_left;rotate_left
  all_goals (repeat' first|refine⟨⟨N,e⟩,?_,?_⟩|apply wZ;rfl|constructor|apply f|apply wY;rfl|simp<;>omega|intro h;simp at h)
 have g:(bJ (aF b z.1) z.2).isSome=false:=by simpa[sS]using hz
 rw[zn hz];rw[g]at hg
 all_goals (refine pF func159 rfl λst=>?_;repeat'(first|exact Cn.any ⟨_,_,_,rfl,Wk.nil,zsr _,rfl,rfl⟩|apply wZ;rfl|constructor|(first|apply j|apply hg)|apply wY;rfl))
def sK(rows:List R2)(l:Ln)(f:Fr):Bool:=dT (inR rows) l f&&decide (f.act=2)
def akU(z:Bool)(c:Cl):List PV:=match z with
 |true=>[vi 0,vi 0,vi 0, .val (.string e0), .val (.slice none 0 0)]
 |false=>c.z
def asU(t:Tb)(rows:List R2)(who:Dt)(l:Ln):Ln:=⟨l.key,fM (sK rows l) t.f l.c,(cF l who).b⟩
theorem ayF(l:Ln)(cs:List Cl)(who:Dt):cF ⟨l.key,cs,l.b⟩ who=⟨l.key,cs,(cF l who).b⟩:=by
 unfold cF;split<;>rfl
theorem pP(t:Tb)(l:Ln)(rows:List R2)(who:Dt)(R:rows.length<1000000000000)(hf:t.f.length<1000000000000)(hc:l.c.length<100000000000)(hb:l.b.length<100000000000)(S:∀f∈t.f,eN l f.n):qf 163 [.agg t.z, .agg l.z, .seq (rows.map r2C), .agg who.z] (.agg (asU t rows who l).z):=by
 have I:(fM (sK rows l) t.f l.c).length=l.c.length:=dR ..;have d:∀i (h:i<l.c.length),(fM (sK rows l) t.f l.c)[i]'(by rw[I];exact h)=if t.f.any (λf=>decide (f.n=(i:Int))&&sK rows l f)=true then Cl.zero else l.c[i]:=λi h=>oO h
 have r:=λ(cs:List Cl)=>adJ ⟨l.key,cs,l.b⟩ who (by show l.b.length<_;omega);simp only[ayF]at r;unfold asU;generalize fM (sK rows l) t.f l.c=N at*;refine pF func163 rfl λst=>?_
 focus(repeat' first|apply wZ;rfl|show Cn _;constructor)
 refine jS 9 92 5 [_] rfl rfl rfl λid g=>?_;refine aC (X:={x:Nat×Nat//x.1<=l.c.length/\st x.2=none}) (λi=>((((((((St.nil 82 (upd st i.1.2 (some (.arr 92 ((N.take i.1.1).map Cl.z))))).pv 2 (.seq (rows.map r2C))).var 4 77 (t.z)).var 5 96 (l.z)).var 7 51 (who.z)).var 8 96 ([vi 0, .val (.slice none 0 0), .val (.slice none 0 0)])).var 9 96 ([vi l.key, .vec i.1.2 5 0 i.1.1, .seq (l.b.map Dt.z)])).pv 10 (vi (i.1.1:Nat)))) (λi=>l.c.length-i.1.1) ⟨(0,id),by simp,g⟩ ?_ λi=>?_;dsimp only;rotate_left;obtain⟨⟨i,id⟩,hi,g⟩:=i;simp only at hi g;dsimp only;have U:(N.take i).length=i:=by rw[zlt];omega
 by_cases Q:l.c.length<=i;obtain rfl:i=l.c.length:=by omega
 rw[ztl (by omega)];have V:=r N st;have L:FzL id 5 (N.map Cl.z) [.agg [vi l.key, .vec id 5 0 l.c.length, .seq (l.b.map Dt.z)], .agg who.z] [.agg [vi l.key, .seq (N.map Cl.z), .seq (l.b.map Dt.z)], .agg who.z]:= .cons (.agg (.cons .refl (.cons (dI I) (.cons .refl .nil)))) (.cons .refl .nil);rotate_left;have H:i<l.c.length:=by omega
 have d:=d i H;obtain⟨c,G⟩:∃c,l.c[i]=c:=⟨_,rfl⟩;rw[G]at d;have K:(l.c.map Cl.z)[i]?=some c.z:=by rw[List.getElem?_map,zgg H,G];rfl
 have e:∀x,N[i]'(by omega)=x->N.take (i+1)=N.take i++[x]:=λx h=>by rw[zts (by omega),h]
 focus(repeat' first|apply wZ;rfl|show Cn _;constructor|apply cR pk;(iterate 6 rfl);rotate_left;rfl;intro hw;rfl;(intro hw;apply K<;>omega);intro _;rfl;rfl|simp<;>omega|intro h;simp at h)
 refine aC (X:={x:Nat×Bool//x.1<=t.f.length/\x.2=(t.f.take x.1).any λf=>decide (f.n=(i:Int))&&sK rows l f}) (λy=>((((((((((St.nil 82 (upd st id (some (.arr 92 ((N.take i).map Cl.z))))).pv 2 (.seq (rows.map r2C))).var 4 77 (t.z)).var 5 96 (l.z)).var 7 51 (who.z)).var 8 96 ([vi 0, .val (.slice none 0 0), .val (.slice none 0 0)])).var 9 96 ([vi l.key, .vec id 5 0 i, .seq (l.b.map Dt.z)])).pv 10 (vi (i:Nat))).var 11 92 (akU y.1.2 c)).pv 12 (vi (y.1.1:Nat)))) (λy=>t.f.length-y.1.1) ⟨(0,false),by simp,by simp⟩ ?_ λy=>?_;dsimp only[akU];rotate_left;obtain⟨⟨y,z⟩,hy,hz⟩:=y;simp only at hy hz;dsimp only;by_cases A:t.f.length<=y;rw[ztl A]at hz;rw[<-hz]at d;rcases z with _|_
 have e:=e _ d;rw[zn (by simp)]at e;dsimp only[akU];rotate_left;have e:=e _ d;rw[zp rfl]at e;dsimp only[akU];refine aKT 11 rfl (.cons (zwr _) (.cons (zwr _) (.cons (zwr _) (.cons (zwr _) (.cons Wk.nil .nil))))) ?_;rotate_left;have E:y<t.f.length:=by omega
 have m:=awB (p:=λf=>decide (f.n=(i:Int))&&sK rows l f) E;rw[<-hz]at m;obtain⟨f,C⟩:∃f,t.f[y]=f:=⟨_,rfl⟩;have hp:=jP l f.n (S _ (C▸zgm E));rw[C]at m;have D:(t.f.map Fr.z)[y]?=some f.z:=by rw[List.getElem?_map,zgg E,C];rfl
 clear hz d e r;have F:∀w:Bool,(z||decide (f.n=(i:Int))&&sK rows l f)=w->w=(t.f.take (y+1)).any λf=>decide (f.n=(i:Int))&&sK rows l f:=λw h=>by rw[m,h]
 clear m;cases j:ptP l f.n with
 |none=>
  have hh:sK rows l f=false:=by unfold sK;rw[vM j];rfl
  rw[j]at hp;have hn:=uY rows (f.t,0) R;have v:=F z (by rw[hh,Bool.and_false,Bool.or_false]);clear F;cases z
  all_goals dsimp only[akU]
  all_goals focus(repeat' first|apply Cn.cf;focus(((first|apply hp|apply hn));done)|((first|refine⟨⟨(y+1,false),by simp only;omega,v⟩,?_,by simp only;omega⟩|refine⟨⟨(y+1,true),by simp only;omega,v⟩,?_,by simp only;omega⟩);dsimp only[akU];focus((repeat' first|exact Cn.t0|show Cn _;constructor|exact rfl);done))|apply wZ;rfl|show Cn _;constructor|apply cR pk;(iterate 6 rfl);rotate_left;rfl;intro hw;rfl;(intro hw;apply D<;>omega);intro _;rfl;rfl|apply wY;rfl|omega|simp<;>omega|intro h;simp at h;done|intro h;simp at h)
 |some k=>
  rw[j]at hp;have hn:=uY rows (f.t,k) R;have hh:sK rows l f=(inR rows (f.t,k)&&decide (f.act=2)):=by unfold sK;rw[vF j]
  generalize inR rows (f.t,k)=B at*;by_cases a:f.n=(i:Int)/\f.act=2/\B=true
  ·have v:=F true (by rw[hh,zdt a.1,zdt a.2.1,a.2.2];simp)
   clear F hh;obtain⟨M,O,P⟩:=a;cases z
   all_goals dsimp only[akU]
   all_goals focus(repeat' first|apply Cn.cf;focus(((first|apply hp|apply hn));done)|refine⟨⟨(y+1,true),by simp only;omega,v⟩,?_,?_⟩;dsimp only[akU]|exact Cn.t0|apply wZ;rfl|show Cn _;constructor|exact rfl|apply cR pk;(iterate 6 rfl);rotate_left;rfl;intro hw;rfl;(intro hw;apply D<;>omega);intro _;rfl;rfl|apply wY;rfl|omega|simp<;>omega|(exfalso;first|simp only[M,O,P]at*;simp at*;done|grind)|intro h;simp at h)
  ·have v:=F z (by
    rw[hh];cases z
    ·simp only[Bool.false_or]
     rw[<-znt];simp only[zba,zde];exactλq=>a ⟨q.1,q.2.2,q.2.1⟩
    ·simp)
   clear F hh;cases z
   all_goals dsimp only[akU]
   all_goals focus(repeat' first|apply Cn.cf;focus(((first|apply hp|apply hn));done)|((first|refine⟨⟨(y+1,false),by simp only;omega,v⟩,?_,by simp only;omega⟩|refine⟨⟨(y+1,true),by simp only;omega,v⟩,?_,by simp only;omega⟩);dsimp only[akU];focus((repeat' first|exact Cn.t0|show Cn _;constructor|exact rfl);done))|apply wZ;rfl|show Cn _;constructor|apply cR pk;(iterate 6 rfl);rotate_left;rfl;intro hw;rfl;(intro hw;apply D<;>omega);intro _;rfl;rfl|apply wY;rfl|omega|simp<;>omega|(exfalso;first|simp only[M,O,P]at*;simp at*;done|grind)|intro h;simp at h)
 all_goals (repeat' first|refine⟨⟨(i+1,J),by simp only;omega,aI u⟩,?_,?_⟩;(dsimp only;try rw[e])|exact Cn.any (aM ‹_›)|exact Cn.any ⟨_,_,st,rfl,zwr _,aG (aG (zsr _) g) g,rfl,rfl⟩|apply cP;rfl;apply PC.freezeZ (aA _ _ _) rT L (r N _);rintro _ st' (⟨rfl,rfl⟩)|apply wZ;rfl|exact Cn.t0|show Cn _;constructor|apply wY;rfl|simp<;>omega|intro h;simp at h|exact rfl|apply apV pk (f:=Cl.z) [Cl.zero] 64;(iterate 9 rfl);exact aA _ _ _;omega;exactλ_=>rfl;exactλ_=>rfl;exact qZ;(focus(simp;omega));(focus(simp;omega));rfl;intro J u|apply apV pk (f:=Cl.z) [c] 64;(iterate 9 rfl);exact aA _ _ _;omega;exactλ_=>rfl;exactλ_=>rfl;exact qZ;(focus(simp;omega));(focus(simp;omega));rfl;intro J u|omega)
theorem aJj{G:R2->Bool}{l:Ln}(h:∀f∈t.f,dT G l f=true->f.act=0\/f.act=2):qC t G l= !toB t l G 0:=by
 rw[zbi,Bool.not_eq_true',<-znt,arK];unfold qC
 grind
theorem aGo{l:Ln}(who:Dt)(h:qC t (inR rows) l=true):lU t (inR rows) who l=if toB t l (inR rows) 2=true then asU t rows who l else l:=by
 have a:∀f∈t.f,dT (inR rows) l f=sK rows l f:=λf hf=>by
  have:=zal.1 h f hf
  unfold sK
  grind
 have c:ayD t (inR rows) l=toB t l (inR rows) 2:=by
  unfold ayD toB;rw[zbi,zay,zay];constructor
  ·rintro⟨f,hf,e⟩;exact⟨f,hf,by have:=a f hf;rw[e]at this;exact this.symm⟩
  grind
 have d:fM (dT (inR rows) l) t.f l.c=fM (sK rows l) t.f l.c:=by
  unfold fM
  grind
 unfold lU asU;rw[c,d]
theorem aIG{s:Sc}{b:Bs}(hFo:FolD s b)(who:Dt)(K:List R2)(hK:K.length<1000000000000)(hA:∀k (h:k<s.length),∀l∈b[k]!.l,inR K ((k:Int),l.key)=false->∀f∈s[k].f,dT (inR K) l f=true->f.act=0\/f.act=2)(z:R2)(hr:qf 51 [.agg (scC s), .agg (bsC b)] (vb true))(hk:qf 159 [.agg (scC s), .agg (bsC b),vi z.1,vi z.2] (.seq (K.map r2C)))(hK0:0<K.length)(st:aD):qc 97 [.agg (scC s), .agg (bsC b),vi z.1,vi z.2, .agg who.z] st (aLI s b who K st):=by
 obtain⟨⟨U,s16,f16,p,hlns⟩,ln,L,hcols⟩:=hFo;have hnew:=aKp s (by omega);have hI:∀k y,(iY s b (inR K) who k y).length<=b[k]!.l.length:=λk y=>awC s b (inR K) who k y;have hKn:¬K=[]:=λe=>by rw[e]at hK0;simp at hK0
 refine pC func97 rfl ?_
 focus(repeat' first|apply Cn.cf;focus(((first|apply hr|apply hk));done)|apply cP;rfl;apply hnew st;rintro _ st' (⟨idT,rfl,hidT,rfl⟩)|apply wZ;rfl|show Cn _;constructor|apply wY;rfl|simp only[zql];omega|intro h;simp at h)
 have D:st idT=none:=hidT;have V:StSub (upd st idT (some (.arr 108 (kD b.length 0 (oE s b (inR K) who))))) (upd st idT (some (.arr 108 ((List.replicate s.length ()).map yU)))):=by rw[ajE,U];exact zsr _
 refine aC (X:={x:Nat//x<=b.length/\∀k (h:k<b.length),k<x->∀y (h:y<b[k].l.length),pS s[k]! (inR K) k b[k].l[y]=true}) (λi=>((((((((St.nil 116 (upd st idT (some (.arr 108 (kD b.length i.1 (oE s b (inR K) who)))))).var 5 24 (scC s)).var 6 27 (bsC b)).var 9 51 (who.z)).var 10 27 ([.val (.slice none 0 0)])).pv 12 (.seq (K.map r2C))).var 13 27 ([.vec idT 1 0 s.length])).pv 14 (vi (i.1:Nat)))) (λi=>b.length-i.1) ⟨0,by omega,by simp⟩ ?_ λi=>?_
 ·repeat' first|exact .any V|show Cn _;constructor|exact rfl
 obtain⟨i,hi,hIv⟩:=i;dsimp only;by_cases hend:b.length<=i
 ·obtain rfl:i=b.length:=by omega
  have hmay:agO s b (inR K)=true:=by
   unfold agO;rw[zal];intro k hk;have hk:=zmr.1 hk;rw[zep b k hk,zal];intro l hl;obtain⟨y,hy,rfl⟩:=zgo hl;exact hIv k hk hk y hy
  rw[amZ]
  repeat' first|show Cn (.r _ _ _);refine .rr ?_;exact .inr ⟨hmay,idT,by rw[U],aA _ _ _,bN D⟩;done|apply wZ;rfl|show Cn _;constructor|simp only[zql];omega|intro h;simp at h
 have C:i<b.length:=by omega
 have B:i<s.length:=by omega
 have hrow:=anR C (oE s b (inR K) who);have hset:=amE (n:=b.length) (k:=i) (oE s b (inR K) who);have hrl:=amL b.length i (oE s b (inR K) who);have c:=λy h=>aCw (s:=s) (b:=b) (G:=inR K) (who:=who) (k:=i) (y:=y) h;have hIa:=atH (s:=s) (b:=b) (G:=inR K) (who:=who) (k:=i);have hI0:iY s b (inR K) who i 0=[]:=by simp[iY]
 have hIl:=hI i;have p:=p i B;have hAi:=hA i B;have hln:=ln i C;have L:=L i C;have hf16:=f16 i B;simp only[zep b i C,zep s i B]at c hIa hIl p hAi;generalize kD b.length i (oE s b (inR K) who)=R at*
 focus(repeat' first|apply wZ;rfl|show Cn _;constructor|exact rfl|apply wI;rfl|apply gE;omega|simp only[zql];omega|intro h;simp at h)
 refine adR (id:=idT) (k:=i) 96 3 (aA _ _ _) hrow rfl λidL S=>?_;have j:upd st idT (some (.arr 108 R)) idL=none:=S;have d:idL≠idT:=λe=>by rw[e,aA]at j;cases j
 have a:st idL=none:=by rwa[aB d]at j
 clear S j;have I:StSub (upd (upd st idL (some (.arr 96 ((iY s b (inR K) who i 0).map Ln.z)))) idT (some (.arr 108 (R.set i [.vec idL 3 0 (iY s b (inR K) who i 0).length])))) (upd (upd (upd st idT (some (.arr 108 R))) idL (some (.arr 96 []))) idT (some (.arr 108 (R.set i [.vec idL 3 0 0])))):=by rw[hI0];exact arM d
 refine aC (X:={x:Nat×Nat//x.1<=b[i].l.length/\st x.2=none/\x.2≠idT/\∀y (h:y<b[i].l.length),y<x.1->pS s[i] (inR K) i b[i].l[y]=true}) (λy=>((((((((((St.nil 116 (upd (upd st y.1.2 (some (.arr 96 ((iY s b (inR K) who i y.1.1).map Ln.z)))) idT (some (.arr 108 (R.set i [.vec y.1.2 3 0 (iY s b (inR K) who i y.1.1).length]))))).var 5 24 (scC s)).var 6 27 (bsC b)).var 9 51 (who.z)).var 10 27 ([.val (.slice none 0 0)])).pv 12 (.seq (K.map r2C))).var 13 27 ([.vec idT 1 0 s.length])).pv 14 (vi (i:Nat))).pv 15 (.seq (b[i].l.map Ln.z))).pv 16 (vi (y.1.1:Nat)))) (λy=>b[i].l.length-y.1.1) ⟨(0,idL),by simp,a,d,by simp⟩ ?_ λy=>?_
 ·dsimp only
  repeat' first|exact .any I|show Cn _;constructor|exact rfl
 clear a d I V;obtain⟨⟨y,idL⟩,hy,a,d,Y⟩:=y;dsimp only at hy a d Y;dsimp only;have H:=Ne.symm d;have u:(R.set i [.vec idL 3 0 (iY s b (inR K) who i y).length])[i]?=some [.vec idL 3 0 (iY s b (inR K) who i y).length]:=List.getElem?_set_self (by omega);have hIy:=hIl y;by_cases hend2:b[i].l.length<=y
 ·obtain rfl:y=b[i].l.length:=by omega
  rw[hIa]at u⊢;have hup:∀k (h:k<b.length),k<i+1->∀y (h:y<b[k].l.length),pS s[k]! (inR K) k b[k].l[y]=true:=λk hk hki v hv=>by
   rcases zls.1 hki with q|q
   ·exact hIv k hk q v hv
   ·subst q;rw[zep s k B];exact Y v hv hv
  refine ahN (id:=idT) (idL:=idL) (k:=i) (aA _ _ _) u ((aB d).trans (aA _ _ _)) lH (zql _) H ?_;rw[List.set_set,hset]
  repeat' first|refine⟨⟨i+1,by omega,hup⟩,?_,?_⟩|show Cn (.s _ (St.nil _ _));refine .any ?_;exact Sub.nil _ _ _ (alJ a d rfl) rfl|apply wZ;rfl|show Cn _;constructor|exact rfl|omega|simp only[zql];omega|intro h;simp at h
 have P:y<b[i].l.length:=by omega
 obtain⟨l,E⟩:∃l,b[i].l[y]=l:=⟨_,rfl⟩;have N:l∈b[i].l:=E▸zgm P;have M:(b[i].l.map Ln.z)[y]?=some l.z:=by rw[List.getElem?_map,zgg P,E];rfl
 have c:=c y P;rw[E]at c;have hyU:pS s[i] (inR K) i l=true->∀v (h:v<b[i].l.length),v<y+1->pS s[i] (inR K) i b[i].l[v]=true:=λh v hv hvy=>by
  rcases zls.1 hvy with q|q
  ·exact Y v hv q
  ·subst q;rw[E];exact h
 have hbad:pS s[i] (inR K) i l=false->agO s b (inR K)=false:=λh=>aBD C P (by rw[zep s i B,E];exact h);have A:=uY K ((i:Int),l.key) hK;have W:=λf hf=>p f hf l N;have J:=anV s[i] l K 0 hK (by omega) W;have O:=anV s[i] l K 2 hK (by omega) W;have hnl:=pP s[i] l K who hK (by omega) (L l N).1 (L l N).2 W;have m:=λh=>aJj (hAi l N h);have hNl:=λ(h:qC s[i] (inR K) l=true)=>aGo (rows:=K) who (t:=s[i]) (l:=l) h;cases Q:inR K ((i:Int),l.key)with
 |true=>
  rw[Q,zp rfl]at c;have hU:=hyU (by unfold pS;rw[Q];rfl);rw[Q]at A
  (repeat' first|apply Cn.cf;focus((apply A);done)|refine⟨⟨(y+1,idL),by simp only;omega,a,d,hU⟩,?_,?_⟩;dsimp only;rw[c]|show Cn (.t _ _);exact Cn.t0|apply wZ;rfl|show Cn _;constructor|exact rfl|apply cR pk;(iterate 6 rfl);rotate_left;rfl;intro hw;rfl;(intro hw;apply M<;>omega);intro _;rfl;rfl|apply wY;rfl|omega|simp only[zql];omega|intro h;simp at h)
 |false=>
  rw[Q,zn (by simp)]at c;have m:=m Q;rw[Q]at A;cases hT0:toB s[i] l (inR K) 0 with
  |true=>
   rw[hT0]at J m;have hb:=hbad (by unfold pS;rw[Q,m];rfl)
   (repeat' first|apply wD pk [] [];kernel_rfl;rfl;rfl|apply Cn.cf;focus(((first|apply A|apply J));done)|show Cn (.r _ _ _);refine .rr ?_;exact .inl ⟨hb,rfl,agZ a D⟩;done|apply wZ;rfl|show Cn _;constructor|exact rfl|apply cR pk;(iterate 6 rfl);rotate_left;rfl;intro hw;rfl;(intro hw;apply M<;>omega);intro _;rfl;rfl|apply wY;rfl|apply wI;rfl|apply gE;omega|simp only[zql];omega|intro h;simp at h)
  |false=>
   rw[hT0]at J m;have hU:=hyU (by unfold pS;rw[Q,m];rfl);rw[hNl m]at c;have F:(iY s b (inR K) who i (y+1)).length=(iY s b (inR K) who i y).length+1:=by rw[c,zla];rfl
   cases hT2:toB s[i] l (inR K) 2 with
   |true=>
    rw[hT2]at O c;rw[zp rfl]at c
    (repeat' first|apply wD (id:=20) pk [11,14] [8];kernel_rfl;rfl;rfl|apply wD (id:=15) pk [] [];kernel_rfl;rfl;rfl|apply wD (id:=18) pk [] [];kernel_rfl;rfl;rfl|apply wD (id:=19) pk [] [];kernel_rfl;rfl;rfl|apply Cn.cf;focus(((first|apply A|apply J|apply O|apply hnl));done)|refine⟨⟨(y+1,Z),by simp only;omega,(fP g).2,Ne.symm (fP g).1,hU⟩,?_,?_⟩;dsimp only|show Cn (.s _ (St.nil _ _));refine .any ?_;exact Sub.nil _ _ _ (xZ a d (by rw[c]) (by rw[List.set_set,F];rfl)) rfl|apply wZ;rfl|show Cn _;constructor|exact rfl|apply cR pk;(iterate 6 rfl);rotate_left;rfl;intro hw;rfl;(intro hw;apply M<;>omega);intro _;rfl;rfl|apply apV pk (f:=Ln.z) [asU s[i] K who l] 56;(iterate 9 rfl);(focus((repeat (first|exact aA _ _ _|refine(aB ‹_›).trans ?_));done));omega;exactλ_=>rfl;exactλ_=>rfl;exact oI;(focus(simp;omega));(focus(simp;omega));rfl;intro Z g|apply ixA pk;(iterate 5 rfl);rotate_left;rfl;intro hw;exact(show _=((i:Nat):Int)from by omega);intro hw;omega;rfl;exact Nat.zero_add _|apply ldX pk;rfl;rfl;rotate_left;rfl;exact aA _ _ _;rfl;exact u;rfl;rfl|have hq:=fP g;apply stX pk;rfl;rfl;exact(aB hq.1).trans ((aB H).trans (aA _ _ _));rfl;exact u;rfl;rfl|apply wY;rfl|apply wI;rfl|apply gE;omega|omega|simp only[zql];omega|intro h;simp at h)
   |false=>
    rw[hT2]at O c;rw[zn (by simp)]at c
    repeat' first|apply wD (id:=20) pk [11,14] [8];kernel_rfl;rfl;rfl|apply wD (id:=15) pk [] [];kernel_rfl;rfl;rfl|apply wD (id:=18) pk [] [];kernel_rfl;rfl;rfl|apply Cn.cf;focus(((first|apply A|apply J|apply O));done)|refine⟨⟨(y+1,Z),by simp only;omega,(fP g).2,Ne.symm (fP g).1,hU⟩,?_,?_⟩;dsimp only|show Cn (.s _ (St.nil _ _));refine .any ?_;exact Sub.nil _ _ _ (xZ a d (by rw[c]) (by rw[List.set_set,F];rfl)) rfl|apply wZ;rfl|show Cn _;constructor|exact rfl|apply cR pk;(iterate 6 rfl);rotate_left;rfl;intro hw;rfl;(intro hw;apply M<;>omega);intro _;rfl;rfl|apply apV pk (f:=Ln.z) [l] 56;(iterate 9 rfl);(focus((repeat (first|exact aA _ _ _|refine(aB ‹_›).trans ?_));done));omega;exactλ_=>rfl;exactλ_=>rfl;exact oI;(focus(simp;omega));(focus(simp;omega));rfl;intro Z g|apply ixA pk;(iterate 5 rfl);rotate_left;rfl;intro hw;exact(show _=((i:Nat):Int)from by omega);intro hw;omega;rfl;exact Nat.zero_add _|apply ldX pk;rfl;rfl;rotate_left;rfl;exact aA _ _ _;rfl;exact u;rfl;rfl|have hq:=fP g;apply stX pk;rfl;rfl;exact(aB hq.1).trans ((aB H).trans (aA _ _ _));rfl;exact u;rfl;rfl|apply wY;rfl|apply wI;rfl|apply gE;omega|omega|simp only[zql];omega|intro h;simp at h
theorem aBS(hb:b.length=s.length)(z:R2):inR (aeN s b z)=inR (lQ s b z):=by
 funext y
 unfold inR aeN lQ;by_cases hz:sS b z=true
 ·rw[zp hz,zp hz,decide_eq_decide]
  exact aiS hb (qH.1 hz) y
 grind
theorem aHo(hb:rb=true->b.length=s.length)(z:R2)(who:Dt):oY rb s b z who (aeN s b z)=oY rb s b z who (lQ s b z):=by
 unfold oY;cases rb with
 |false=>rfl
 |true=>rw[aBS (hb rfl)]
theorem asQ(hg:bA T.rightP s b=true)(f:BsS 200 b)(hs:ScB s)(hl:s.length<=20)(z:R2)(who:Dt):qf 97 [.agg (scC s), .agg (bsC b),vi z.1,vi z.2, .agg who.z] (jA (oY true s b z who (lQ s b z))):=by
 have g:=eZ f (by omega) hs hl;rw[hg]at g;have c:BsS 1000 b:=⟨f.1,λd hd=>⟨by have:=(f.2 d hd).1;omega,(f.2 d hd).2⟩⟩;have a:=aB0 hg c;have h:FolN s b 200:=⟨aG9 hg c,λk hk=>(f.2 _ (zgm hk)).1,by decide⟩;have hk:=aDT (z:=z) (rb:=true) g (λ_=>h) (λ_=>aDd hg) (by have:=(f.l z.1).1;omega) (amS c);rw[zp rfl]at hk;rw[<-aHo λ_=>a.len];by_cases hz:sS b z=true
 ·have e:=qH.1 hz
  have h0:0<(aeN s b z).length:=by
   unfold aeN;rw[zp hz];exact List.length_pos_of_mem ((aiS a.len e z).2 ((aoH a.len e).me z rfl))
  have i:(aeN s b z).length<1000000000000:=by
   unfold aeN;rw[zp hz];have:(aAK s b z).length<=(cC b).length:=List.length_filter_le ..;have:=amS c;omega
  exactλst=>aBW hz (aIG a who (aeN s b z) i (by rw[aBS a.len];exact aNB hg z) z g hk h0 st)
 ·have j:aeN s b z=[]:=by unfold aeN;rw[zn hz]
  unfold oY;rw[zp rfl,zn hz];rw[j]at hk;refine pF func97 rfl λst=>?_
  repeat' first|exact Cn.any ⟨_,_,_,rfl,jJ 4,zsr _,rfl,rfl⟩|apply wZ;rfl|constructor|(first|apply g|apply hk)|apply wY;rfl
theorem ayG(k c:Int)(e:2<=k)(f:k<=7):qf 247 [vi k,vi c] (vb (uK k c)):=by
 unfold uK;by_cases k2:k=2;rw[zp k2];rotate_left;rw[zn k2];by_cases a:k=3;rw[zp a];rotate_left;rw[zn a];by_cases d:k=4\/k=5;rw[zp d];rotate_left;rw[zn d,zp (by omega)]
 all_goals (refine pF func247 rfl λst=>?_;repeat'(first|apply wZ;rfl|omega|constructor|show(_:PV)=_;rw[Bool.decide_or];done|intro h))
def avW(o:Ot)(c:Co):Int:=if o.k=2 then c.type_ else if o.k=6 then 2 else 1
theorem aoR(o:Ot)(c:Co):qf 248 [.agg o.z, .agg c.z] (vi (avW o c)):=by
 unfold avW;by_cases k2:o.k=2;rw[zp k2];rotate_left;rw[zn k2];by_cases a:o.k=6;rw[zp a];rotate_left;rw[zn a]
 all_goals (refine pF func248 rfl λst=>?_;repeat'(first|apply wZ;rfl|omega|constructor|intro h))
def arJ(c:Co)(o:Ot):Int:=if o.n=0 then 1 else if uK o.k c.k=false then 6 else if nW c o≠0 then nW c o else if pB o=false then 1 else 0
theorem aKl(c:Co)(o:Ot):nW c o=if(o.k=7/\o.val≠Vl.zero)\/cB o.val=false then 1 else if o.k=2/\o.val.k=0 then(if c.null=true then 0 else 7)else if o.k≠7/\o.val.k≠avW o c then 6 else 0:=by
 unfold nW avW
 grind
theorem aoF(c:Co)(o:Ot)(j:2<=o.k)(k:o.k<=7):qf 158 [.agg c.z, .agg o.z] (vi (arJ c o)):=by
 have hf:=ayG o.k c.k j k;have hv:=jH o.val;have hk:=aoR o c;have hz:o.val≠Vl.zero↔¬(o.val.k=0/\o.val.n=0/\o.val.s=e0):=by rw[ne_eq,Vl.ext_iff];rfl
 unfold arJ;by_cases c0:o.n=0;rw[zp c0];rotate_left;rw[zn c0];rcases hF:uK o.k c.k with _|_
 rw[zp rfl];rw[hF]at hf;rotate_left;rw[hF]at hf;rw[zn (by simp),aKl];generalize avW o c=K at*;generalize cB o.val=V at*;by_cases f:(o.k=7/\o.val≠Vl.zero)\/V=false;rw[zp f,zp (by decide)];rw[hz]at f;rotate_left;rw[zn f];rw[hz]at f;have a:pB o=false↔((o.after.dev=0/\o.after.seq=0)/\o.a=0/\o.k=7)\/(¬((o.after.dev=0/\o.after.seq=0)/\o.a=0)/\((o.k≠6/\o.k≠7)\/o.after.dev<1\/o.after.dev>64\/o.after.seq<1\/o.after.seq>1048576\/o.a<0\/o.a>1999)):=by
  have e:(o.after=Dt.zero/\o.a=0)↔((o.after.dev=0/\o.after.seq=0)/\o.a=0):=by rw[Dt.ext_iff];rfl
  unfold pB T.mayN T.withinB;rw[<-znt];by_cases q:(o.after.dev=0/\o.after.seq=0)/\o.a=0
  ·rw[zp (e.2 q)]
   simp only[zde]
   grind
  ·rw[zn λz=>q (e.1 z)]
   simp only[zba,zde];omega
 by_cases g:o.k=2/\o.val.k=0;rw[zp g];rcases hn:c.null with _|_
 rw[zn (show¬(false=true) by decide),zp (show(7:Int)≠0 by decide)];rotate_left;rw[zp (show true=true from rfl),zn (show¬((0:Int)≠0) by decide)];by_cases d:pB o=false;rw[zp d];rw[a]at d;rotate_left;rw[zn d];rw[a]at d;rotate_left;rw[zn g];by_cases i:o.k≠7/\o.val.k≠K;rw[zp i,zp (by decide)];rotate_left;rw[zn i,zn (by decide)];by_cases d:pB o=false;rw[zp d];rw[a]at d;rotate_left;rw[zn d];rw[a]at d
 all_goals (refine pF func158 rfl λst=>?_;repeat'(first|apply wZ;rfl|show Cn _;constructor|exact rfl|apply KR.mk;kernel_rfl|(first|apply hf|apply hv|apply hk)|apply wY;rfl|omega|exfalso;grind|intro h;simp at h;omega|intro h;simp at h|intro h))
theorem akP(s:Sc)(o:Ot)(hs:s.length<1000000000000)(ht:∀t∈s,t.o.length<1000000000000)(r:∀t∈s,qf 157 [.seq (t.o.map Co.z), .seq (o.r.map Vl.z)] (vi (cY t o.r))):qf 96 [.agg (scC s), .agg o.z] (vi (eF s o)):=by
 have y:(s.map Tb.z).length=s.length:=zql _;have a:nG o=(decide (o.n=0)&&(decide (o.val.k=0)&&(decide (o.val.n=0)&&decide (o.val.s=e0)))&&(decide (o.after.dev=0)&&decide (o.after.seq=0))&&decide (o.a=0)):=by
  unfold nG;rw[aK6,aIw,zbi];simp[and_assoc]
 have c:∀n,akF n=false↔n<0\/n>1073741823:=λn=>by
  unfold akF
  rw[Bool.and_eq_false_iff,zdf,zdf]
  omega
 unfold eF;by_cases h0:o.k<1\/o.k>8;rw[zp h0];rotate_left;rw[zn h0];by_cases v:o.t<0\/o.t>=s.length;rw[zp v];rotate_left;rw[zn v];obtain⟨k,hk⟩:∃k:Nat,o.t=k:=⟨o.t.toNat,by omega⟩;have e:k<s.length:=by omega
 have hm:=zgm e;rw[hk,zin,zep s k e];have r:=r _ hm;by_cases x:o.k=1;rw[zp x];unfold arE;by_cases d:o.key≠0\/nG o=false;rw[zp d];rw[a]at d;rotate_left;rw[zn d];rw[a]at d;simp only[not_or,Decidable.not_not,Bool.not_eq_false]at d;obtain⟨d,z⟩:=d;generalize cY s[k] o.r=R at*;by_cases g:R≠0;rw[zp g];rotate_left;rw[zn g];have g:=zdn g;by_cases u:o.r.length=0;rw[zp (.inl u)];rotate_left;have f:0<o.r.length:=by omega
 rw[zep o.r 0 f];by_cases i:akF o.r[0].n=false;rw[zp (.inr i)];rw[c]at i;rotate_left;rw[zn (by rintro(q|q);exact u q;exact i q)];rw[c]at i;rotate_left;rw[zn x];by_cases l:o.r.length>0\/akF o.key=false;rw[zp l];rw[c]at l;rotate_left;rw[zn l];rw[c]at l;by_cases h8:o.k≠8;rw[zp h8];unfold zD;by_cases b0:o.n<0\/o.n>=s[k].o.length;rw[zp b0];rotate_left;rw[zn b0];obtain⟨j,hj⟩:∃j:Nat,o.n=j:=⟨o.n.toNat,by omega⟩;have p:j<s[k].o.length:=by omega
 rw[show s[k].o[o.n.toNat]! =s[k].o[j]from by rw[hj,zin,zep s[k].o j p]];have hc:=aoF s[k].o[j] o (by omega) (by omega);unfold arJ at hc;generalize(if o.n=0 then(1:Int)else if uK o.k s[k].o[j].k=false then 6 else if nW s[k].o[j] o≠0 then nW s[k].o[j] o else if pB o=false then 1 else 0)=V at*;rotate_left;rw[zn h8];have h8:=zdn h8;by_cases m:nG o=false;rw[zp m];rw[a]at m;rotate_left;rw[zn m];rw[a]at m
 all_goals (refine pF func96 rfl λst=>?_;repeat'(first|apply iX;intro hw;exact hk;apply gE;omega;rfl|apply iX;intro hw;exact hj;apply gE;omega;rfl|apply wZ;rfl|show Cn _;constructor|exact rfl|apply KR.mk;kernel_rfl|apply hc|apply r|apply wY;rfl|apply wI;rfl|apply gE;omega|omega|exfalso;simp_all;omega|simp<;>omega|exfalso;simp_all;done|intro h;simp at h;omega|intro h;simp at h|intro h))
theorem pK(a:CkB n s b)(w:Wr)(hk:w.knew.length<1000000000000):qf 44 [.agg (scC s), .agg (bsC b), .agg w.who.z, .seq (w.knew.map I1)] (vb (rightW w s b)):=by
 have f:=a.rright;have i:=eZ a.bs a.hn a.sb a.len;have j:=aDW w.knew hk;have e:rightW w s b=(decide (rightC s=0)&&bA T.rightP s b&&aoQ w.knew&&(decide (w.who.m>=1)&&decide (w.who.m<=1125899906842624))&&(((decide (w.who.dev>=1)&&decide (w.who.dev<=64))&&decide (w.who.seq>=1))&&decide (w.who.seq<=1048576))):=by
  unfold rightW mayC tD T.withinB;rw[zbi];simp only[zba,zde]
  grind
 rw[e];generalize rightC s=R at*;generalize bA T.rightP s b=B at*;generalize aoQ w.knew=V at*;by_cases g:¬(R=0/\B=true/\V=true/\w.who.m>=1/\w.who.m<=1125899906842624);rw[show(decide (R=0)&&B&&V&&(decide (w.who.m>=1)&&decide (w.who.m<=1125899906842624))&&(((decide (w.who.dev>=1)&&decide (w.who.dev<=64))&&decide (w.who.seq>=1))&&decide (w.who.seq<=1048576)))=false from by
  rw[<-znt];simp only[zba,zde]
  grind]
 rotate_left;obtain⟨rfl,rfl,rfl,c,d⟩:=zdn g;rw[zdt c,zdt d];simp only[decide_true,Bool.true_and]
 all_goals (refine pF func44 rfl λst=>?_;repeat'(first|apply wZ;rfl|constructor|(first|apply f|apply i|apply j)|apply wY;rfl|intro h;simp at h;omega|exfalso;grind|intro h;simp at h))
theorem akI(w:Wr)(kind:Int)(v:Vl)(e:0<=kind/\kind<=4)(hv:inL v.n)(hs:v.s.size<1000000)(hk:w.knew.length<1000000000000):qf 98 [vi kind, .agg v.z, .agg w.who.z, .seq (w.knew.map I1)] (sR (jG w kind v)):=by
 have hd:w.d.z=[vi w.who.dev,vi w.who.seq]:=rfl;unfold jG;by_cases a:kind=0;rw[zp a];subst a;rotate_left;rw[zn a];by_cases k2:kind=2;rw[zp k2];have ha:=alF (iW 0) v.n hv;generalize sL (iW 0) v.n=R at*;rotate_left;rw[zn k2];by_cases d:kind=4;rw[zp d];have ht:=T.rtype_spec ⟨4,Vl.zero,[]⟩ v.s w.who Dt.zero 0 (by simp) hs;rw[show(⟨Dt.zero,0⟩:T.Nm)=T.Nm.zero from rfl]at ht;generalize T.typeP ⟨4,Vl.zero,[]⟩ v.s w.who T.Nm.zero=R at*;rotate_left;rw[zn d];by_cases v0:v.k=0;rw[zp v0];rotate_left;rw[zn v0];by_cases c:kind=3;rw[zp c];have hp:=ahB ⟨kind,Vl.zero,[]⟩ v.n w.d (by simp);generalize nE ⟨kind,Vl.zero,[]⟩ v.n w.d=R at*;rotate_left;rw[zn c];have hp:=acP ⟨kind,Vl.zero,[]⟩ v w.d w.knew (by simp) hk;generalize fW ⟨kind,Vl.zero,[]⟩ v w.d w.knew=R at*
 all_goals (refine pF func98 rfl λst=>?_;repeat'(first|exact Cn.any ⟨_,_,_,rfl,aM8 kind 0,zsr _,rfl,rfl⟩|exact Cn.any ⟨_,_,_,rfl,wkV v 0,zsr _,rfl,rfl⟩|apply wZ;rfl|apply KR.mk;kernel_rfl|omega|constructor|(apply amM (qs:=[.agg (Cl.mk kind Vl.zero []).z, .agg v.z, .agg w.d.z, .seq (w.knew.map I1)]) (p:= .agg R.z);rfl;rfl;rfl;exact WkL.cons (wkN kind) (.cons (zwr _) (.cons (zwr _) (.cons (zwr _) .nil)));intro _;exact hp;(focus repeat' constructor);rfl);rfl|(apply amM (qs:=[.agg (Cl.mk kind Vl.zero []).z,vi v.n, .agg w.d.z]) (p:= .agg R.z);rfl;rfl;rfl;exact WkL.cons (wkN kind) (.cons (zwr _) (.cons (zwr _) .nil));intro _;exact hp;(focus repeat' constructor);rfl);rfl|(first|apply T.rtnew_spec|apply ht)|(first|apply aBg|apply ha)|apply wY;rfl|intro h))
theorem aqV{c:Cl}(hT:TnOK w c o)(i:2<=o.k)(j:o.k<=7):qf 100 [.agg c.z, .agg o.z, .agg w.who.z, .seq (w.knew.map I1)] (sR (dW w c o)):=by
 have g:=hT.p;unfold dW;by_cases k2:o.k=2;rw[zp k2];by_cases c0:c.k=0;rw[zp c0];rotate_left;rw[zn c0];have hp:=acP c o.val w.d w.knew (by omega) hT.kn;generalize fW c o.val w.d w.knew=R at*;unfold Wr.d at hp;rotate_left;rw[zn k2];by_cases a:o.k=3;rw[zp a];have hp:=alF c o.val.n hT.n;generalize sL c o.val.n=R at*;rotate_left;rw[zn a];by_cases d:o.k=4;rw[zp d];have hp:=ahB c o.val.n w.d (by omega);generalize nE c o.val.n w.d=R at*;unfold Wr.d at hp;rotate_left;rw[zn d];by_cases e:o.k=5;rw[zp e];have hp:=ayJ c o.val.n w.d w.knew (by omega) hT.kn;generalize oP c o.val.n w.d w.knew=R at*;unfold Wr.d at hp;rotate_left;rw[zn e];by_cases f:o.k=6;rw[zp f];have hp:=T.rtype_spec c o.val.s w.who o.after o.a (by omega) hT.s;generalize T.typeP c o.val.s w.who ⟨o.after,o.a⟩=R at*;rotate_left;rw[zn f]
 have hp:=T.rerase_spec c o.after o.a (by omega);generalize T.eraseP c ⟨o.after,o.a⟩=R at*
 all_goals (refine pF func100 rfl λst=>?_;repeat'(first|exact Cn.any ⟨_,_,_,rfl,wkV o.val 0,zsr _,rfl,rfl⟩|apply wZ;rfl|omega|constructor|apply hp|apply wY;rfl|intro h))
end
section
attribute [local irreducible] Ev PWp
section
variable{n:Nat}{w:Wr}{s:Sc}{b:Bs}{o:Ot}(hD:DoB n w s b o)(hcol:∀t∈s,t.o.length<10000000000)(hb:bA T.rightP s b=true)
include hD hcol
theorem aI5 :qf 96 [.agg (scC s), .agg o.z] (vi (eF s o)):=
 akP s o (by have:=hD.len;omega) (λt ht=>by have:=hcol t ht;omega) λt ht=>afX t o.r (by have:=hcol t ht;omega) (by have:=hD.few.1;omega)
include hb
theorem aDz(d:eF s o=0)(h8:o.k=8):qf 45 [.agg (scC s), .agg (bsC b), .agg o.z, .agg w.who.z, .seq (w.knew.map I1)] (jA (oY true s b (o.t,o.key) w.d (lQ s b (o.t,o.key)))):=by
 have c:=aI5 hD hcol;rw[d]at c;have a:=asQ hb hD.S hD.sb hD.len (o.t,o.key) w.d;generalize oY true s b (o.t,o.key) w.d (lQ s b (o.t,o.key))=R at*;unfold jA at a;unfold Wr.d at a;refine pF func45 rfl λst=>?_
 repeat' first|apply wZ;rfl|omega|constructor|(first|apply c|apply a)|apply wY;rfl|intro h
theorem aDr(hr:eF s o=0)(h1:o.k=1):qf 45 [.agg (scC s), .agg (bsC b), .agg o.z, .agg w.who.z, .seq (w.knew.map I1)] (jA (aBd w s b o)):=by
 intro st;have Q:=aI5 hD hcol;rw[hr]at Q;have⟨k,hk,H,r1,_⟩:=qB hr;have hi:=r1 h1;obtain⟨⟨q1,q2⟩,_⟩:=aS.1 hb;have W:k<b.length:=by omega
 unfold arE at hi;split at hi
 ·cases hi
 split at hi
 ·rename_i q;exact absurd hi q
 split at hi
 ·cases hi
 rename_i u1 A u3;have A:=zdn A;have K:=anW A;have u:0<o.r.length:=by omega
 have V:∀v∈o.r,inL v.n:=λv hv=>by
  obtain⟨j,hj,rfl⟩:=zgo hv
  unfold cY at A
  rw[zp K.symm]at A
  have:=eW.1 A j (zmr.2 hj)
  unfold mW at this
  split at this
  ·cases this
  ·rename_i q
   rw[zep o.r j hj]at q;exact uU (by simpa using q)
 have hS:=hD.S;have⟨l1,l2⟩:=aeY hS (by omega);have hlW:=(fD hD.bs o.t).1;have hk20:=hD.k20;have p:=mY b o.t o.r[0].n (by omega);rw[mS]at p;have m:=λa=>amT b o.t a (by omega) (by omega);have Z:=aCv W;have Y:=(fD hD.bs (k:Int)).1;rw[Z]at Y;unfold aBd;rw[zep o.r 0 u];rw[show s[o.t.toNat]! =s[k]from by rw[hk,zin,zep s k H]];rw[zn (show¬(aF b o.t).length>=2000 by omega)];generalize(bJ (aF b o.t) o.r[0].n).isSome=I at*;generalize(bJ (aF b o.t) o.r[0].n).getD Ln.zero=L at*;rcases I with _|_
 rw[zn (by simp)];have g:=λi (hi:i<o.r.length)=>akI w s[k].o[i]!.k o.r[i]! (by rw[zep s[k].o i (by omega)];exact aNf q1 H (by omega)) (by rw[zep o.r i hi];exact V _ (zgm hi)) (by rw[zep o.r i hi];have:=hD.few.2.2 _ (zgm hi);omega) hD.kn;have hL:(dY w s[k] o.r).c.length=o.r.length:=by unfold dY;simp
 have y:∀i (hi:i<o.r.length),(dY w s[k] o.r).c[i]'(by rw[hL];exact hi)=(iJ w s[k] o.r i).1:=λi hi=>by
  unfold dY
  show(List.map _ _)[i]'(by simpa using hi)=_
  rw[List.getElem_map,List.getElem_range]
 have J:mN w s[k] o.r=dH (λi=>(iJ w s[k] o.r i).2) (List.range o.r.length):=rfl;have m:=m (dY w s[k] o.r);have R:(dY w s[k] o.r).z=[vi (o.r[0].n), .seq ((dY w s[k] o.r).c.map Cl.z), .seq [w.d.z]]:=by unfold dY;rw[zep o.r 0 u];rfl
 rw[R]at m;have hl20:=hD.few.1;generalize sM b o.t (dY w s[k] o.r)=B at*;generalize(dY w s[k] o.r).c=N at*;generalize mN w s[k] o.r=E at*;have hzz:=λid=>(show FzL id 5 (N.map Cl.z) [.agg (bsC b),vi o.t, .agg [vi (o.r[0].n), .vec id 5 0 o.r.length, .seq [w.d.z]]] [.agg (bsC b),vi o.t, .agg [vi (o.r[0].n), .seq (N.map Cl.z), .seq [w.d.z]]]from .cons .refl (.cons .refl (.cons (.agg (.cons .refl (.cons (dI hL) (.cons .refl .nil)))) .nil)));refine pC func45 rfl ?_
 focus(repeat' first|apply iX;intro hw;exact hk;apply gE;omega;rfl|apply Cn.cf;focus(((first|apply Q|apply p));done)|apply wZ;rfl|apply KR.mk;kernel_rfl|omega|constructor|apply wY;rfl|apply wI;rfl|apply gE;omega|simp<;>omega|intro h;simp at h|intro h)
 refine jS 16 92 5 [_] rfl rfl rfl λid d=>?_;have d:st id=none:=d;refine aC (X:={x:Nat×Nat//x.1<=o.r.length/\st x.2=none/\∀j<x.1,(iJ w s[k] o.r j).2=0}) (λi=>(((((((((St.nil 190 (upd st i.1.2 (some (.arr 92 ((N.take i.1.1).map Cl.z))))).pv 4 (.seq (w.knew.map I1))).var 5 24 (scC s)).var 6 27 (bsC b)).var 7 53 (o.z)).var 8 30 (w.who.z)).var 10 27 ([.val (.slice none 0 0)])).var 16 96 ([vi (o.r[0].n), .vec i.1.2 5 0 i.1.1, .seq [w.d.z]])).pv 17 (vi (i.1.1:Nat)))) (λi=>o.r.length-i.1.1) ⟨(0,id),by simp,d,by simp⟩ ?_ λi=>?_;dsimp only;rotate_left;obtain⟨⟨i,id⟩,hi,d,O⟩:=i;simp only at hi d O;dsimp only;by_cases hend:o.r.length<=i;obtain rfl:i=o.r.length:=by omega
 rw[ztl (by omega)];have P:E=0:=by rw[J];exact eW.2 λj hj=>O j (zmr.1 hj)
 rw[zn (by rw[P];simp)];rotate_left;have r:i<o.r.length:=by omega
 have D:i<s[k].o.length:=by omega
 have y:=y i r;have g:=g i r;rw[zep s[k].o i D,zep o.r i r]at g;have U:iJ w s[k] o.r i=jG w s[k].o[i].k o.r[i]:=by unfold iJ;rw[zep s[k].o i D,zep o.r i r]
 rw[<-U]at g;have hlT:(N.take i).length=i:=by rw[zlt];omega
 have e:N.take (i+1)=N.take i++[(iJ w s[k] o.r i).1]:=by rw[zts (by omega),y]
 have M:(iJ w s[k] o.r i).2=0->∀j<i+1,(iJ w s[k] o.r j).2=0:=λq j hj=>by
  rcases zls.1 hj with z|z
  ·exact O j z
  ·subst z;exact q
 have C:(iJ w s[k] o.r i).2≠0->E=(iJ w s[k] o.r i).2:=λq=>by
  rw[J]
  have hlr:i<(List.range o.r.length).length:=by rw[List.length_range];exact r
  have:=yD (f:=λi=>(iJ w s[k] o.r i).2) (l:=List.range o.r.length) (i:=i) hlr (λj hj=>by rw[List.getElem_range];exact O j hj) (by rw[List.getElem_range];exact q)
  rw[this,List.getElem_range]
 generalize iJ w s[k] o.r i=F at*;have⟨c,e'⟩:=F;dsimp only at e M C;unfold sR at g;dsimp only at g;by_cases hz:e'=0;have hu:=M hz;rotate_left;have P:=C hz;subst P;rw[zp hz];rotate_left;rw[zp rfl];refine pC func45 rfl ?_
 all_goals (repeat' first|exact Cn.any ⟨_,_,_,rfl,jJ _,zsr _,rfl,rfl⟩|exact Cn.any ⟨_,_,st,rfl,jJ _,aG (zsr _) d,rfl,rfl⟩|apply iX;intro hw;exact hk;apply gE;omega;rfl|apply Cn.cf;focus((apply g);done)|refine⟨⟨(i+1,id'),by simp only;omega,aI G,hu⟩,?_,?_⟩;(dsimp only;try rw[e])|exact Cn.any (aM ‹_›)|exact Cn.any ⟨_,_,st,rfl,zwr _,aG (aG (zsr _) d) d,rfl,rfl⟩|apply cP;rfl;apply PC.freezeZ (aA _ _ _) rT (hzz id) (m _);rintro _ st' (⟨rfl,rfl⟩)|apply wZ;rfl|exact Cn.t0|apply KR.mk;kernel_rfl|omega|constructor|apply wY;rfl|simp<;>omega|intro h;simp at h|exact rfl|(first|apply Q|apply p)|apply apV pk (f:=Cl.z) [c] 64;(iterate 9 rfl);exact aA _ _ _;omega;exactλ_=>rfl;exactλ_=>rfl;exact qZ;(focus(simp;omega));(focus(simp;omega));rfl;intro id' G|apply wI;rfl|apply gE;omega|intro h)
theorem aAl(F:eF s o=0)(h1:o.k≠1)(h8:o.k≠8):qf 45 [.agg (scC s), .agg (bsC b), .agg o.z, .agg w.who.z, .seq (w.knew.map I1)] (jA (ahD w b o)):=by
 intro st;have u:=aI5 hD hcol;rw[F]at u;have⟨k,hk,M,_,r2⟩:=qB F;have hc:=r2 h1 h8;obtain⟨⟨q1,q2⟩,_⟩:=aS.1 hb;have hkb:k<b.length:=by omega
 have E:2<=o.k/\o.k<=7:=by
  unfold eF at F;split at F
  ·cases F
  ·omega
 have hS:=hD.S;have⟨l1,l2⟩:=aeY hS (by omega);have hlW:=(fD hD.bs o.t).1;have Z:=hD.k20;have c:=mY b o.t o.key (by omega);have m:=λa=>amT b o.t a (by omega) (by omega);unfold ahD;rcases hg:bJ (aF b o.t) o.key with _|l
 rw[hg]at c;rw[mS]at c;refine pC func45 rfl ?_;rotate_left;rw[hg]at c;have K:qf 48 [.agg (bsC b),vi o.t,vi o.key] (.tup [.agg l.z,vb true]):=c;clear c;have v:=rJ hg;have r:=(fD hD.bs o.t).2 l v;rw[hk]at v;have hL:=xO hb M v;unfold zD at hc;split at hc
 ·cases hc
 split at hc
 ·cases hc
 split at hc
 ·cases hc
 split at hc
 ·rename_i q;exact absurd hc q
 rename_i u1 u2 u3 H;have H:=zdn H;have hlen:=hL.len;obtain⟨j,hj⟩:∃j:Nat,o.n=j:=⟨o.n.toNat,by omega⟩;have p:j<l.c.length:=by omega
 have O:cB o.val=true:=by
  unfold nW at H;split at H
  ·cases H
  ·rename_i q
   cases e:cB o.val with
   |true=>rfl
   |false=>exact absurd (.inr e) q
 have hT:TnOK w l.c[j] o:=⟨uU O,by have:=hD.few.2.1;omega,hD.kn,by have:=r.2.2 _ (zgm p);omega⟩;have V:=r.2.1;have U:=r.1;have z:=aqV hT E.1 E.2;have G:sO w o l=cF ⟨l.key,l.c.set j (dW w l.c[j] o).1,l.b⟩ w.d:=by unfold sO;rw[hj,zin,zep l.c j p]
 simp only;rw[G,show l.c[o.n.toNat]! =l.c[j]from by rw[hj,zin,zep l.c j p]];have P:=adJ ⟨l.key,l.c.set j (dW w l.c[j] o).1,l.b⟩ w.d (by show l.b.length<_;omega);have m:=m (cF ⟨l.key,l.c.set j (dW w l.c[j] o).1,l.b⟩ w.d);have y:(l.c.set j (dW w l.c[j] o).1).length=l.c.length:=List.length_set ..;have C:(l.c.set j (dW w l.c[j] o).1)[j]'(by rw[y];exact p)=(dW w l.c[j] o).1:=List.getElem_set_self ..;have J:∀i (h:i<l.c.length),i≠j->(l.c.set j (dW w l.c[j] o).1)[i]'(by rw[y];exact h)=l.c[i]:=λi h q=>List.getElem_set_ne (Ne.symm q) _;generalize dW w l.c[j] o=R at*;generalize cF ⟨l.key,l.c.set j R.1,l.b⟩ w.d=W at*;generalize sM b o.t W=B at*;generalize l.c.set j R.1=N at*;have⟨rc,re⟩:=R;unfold sR at z;dsimp only at z C⊢
 have Q:=λid=>(show FzL id 5 (N.map Cl.z) [.agg [vi l.key, .vec id 5 0 l.c.length, .seq (l.b.map Dt.z)], .agg w.d.z] [.agg [vi l.key, .seq (N.map Cl.z), .seq (l.b.map Dt.z)], .agg w.d.z]from .cons (.agg (.cons .refl (.cons (dI y) (.cons .refl .nil)))) (.cons .refl .nil));refine pC func45 rfl ?_
 focus(repeat' first|apply Cn.cf;focus(((first|apply u|apply K));done)|apply wZ;rfl|omega|constructor|apply wY;rfl|intro h)
 refine jS 22 92 5 [_] rfl rfl rfl λid d=>?_;have d:st id=none:=d;refine aC (X:={x:Nat×Nat//x.1<=l.c.length/\st x.2=none/\(re=0\/x.1<=j)}) (λi=>((((((((((St.nil 190 (upd st i.1.2 (some (.arr 92 ((N.take i.1.1).map Cl.z))))).pv 4 (.seq (w.knew.map I1))).var 6 27 (bsC b)).var 7 53 (o.z)).var 8 30 (w.who.z)).var 10 27 ([.val (.slice none 0 0)])).var 13 51 (w.d.z)).var 20 96 (l.z)).var 22 96 ([vi l.key, .vec i.1.2 5 0 i.1.1, .seq (l.b.map Dt.z)])).pv 23 (vi (i.1.1:Nat)))) (λi=>l.c.length-i.1.1) ⟨(0,id),by simp,d, .inr (by simp)⟩ ?_ λi=>?_;dsimp only;rotate_left;obtain⟨⟨i,id⟩,hi,d,hI⟩:=i;simp only at hi d hI;dsimp only;by_cases Y:l.c.length<=i;obtain rfl:i=l.c.length:=by omega
 rw[ztl (by omega)];have hE:re=0:=by omega
 rw[zn (by rw[hE];simp)];rotate_left;have L:i<l.c.length:=by omega
 have hlT:(N.take i).length=i:=by rw[zlt];omega
 have e:N.take (i+1)=N.take i++[N[i]]:=zts (by omega);by_cases D:i=j;subst D;rw[C]at e;by_cases hz:re=0;rw[zn (by rw[hz];simp)];rotate_left;rw[zp hz];rotate_left;rw[J i L D]at e;have I:re=0\/i+1<=j:=by omega
 all_goals (repeat' first|refine⟨⟨(i+1,A),by simp only;omega,aI g,I⟩,?_,?_⟩;(dsimp only;try rw[e])|exact Cn.any ⟨_,_,st,rfl,jJ _,aG (zsr _) d,rfl,rfl⟩|apply Cn.cf;focus((apply z);done)|refine⟨⟨(i+1,A),by simp only;omega,aI g, .inl hz⟩,?_,?_⟩;(dsimp only;try rw[e])|exact Cn.any (aM ‹_›)|exact Cn.any ⟨_,_,st,rfl,zwr _,aG (aG (zsr _) d) d,rfl,rfl⟩|apply wD pk [5] [];kernel_rfl;rfl;rfl|apply Cn.cf;focus((apply m);done)|apply cP;rfl;apply PC.freezeZ (aA _ _ _) rT (Q id) (P _);rintro _ st' (⟨rfl,rfl⟩)|exact Cn.t0|exact Cn.any ⟨_,_,_,rfl,jJ _,zsr _,rfl,rfl⟩|apply wZ;rfl|omega|constructor|apply apV pk (f:=Cl.z) [l.c[i]] 64;(iterate 9 rfl);exact aA _ _ _;omega;exactλ_=>rfl;exactλ_=>rfl;exact qZ;(focus(simp;omega));(focus(simp;omega));rfl;intro A g|apply apV pk (f:=Cl.z) [rc] 64;(iterate 9 rfl);exact aA _ _ _;omega;exactλ_=>rfl;exactλ_=>rfl;exact qZ;(focus(simp;omega));(focus(simp;omega));rfl;intro A g|(first|apply u|apply c)|apply wY;rfl|apply wI;rfl|apply gE;omega|simp<;>omega|intro h;simp at h|intro h)
theorem agA :qf 45 [.agg (scC s), .agg (bsC b), .agg o.z, .agg w.who.z, .seq (w.knew.map I1)] (jA (bV w s b o)):=by
 by_cases a:eF s o≠0
 ·have c:=aI5 hD hcol
  have e:bV w s b o=([],eF s o):=by unfold bV;rw[zp a]
  rw[e];generalize eF s o=R at*;refine pF func45 rfl λst=>?_
  repeat' first|exact Cn.any ⟨_,_,_,rfl,jJ _,zsr _,rfl,rfl⟩|apply wZ;rfl|omega|constructor|apply c|apply wY;rfl|intro h
 have a:=zdn a;unfold bV;rw[zn (by rw[a];simp)];by_cases c:o.k=1
 ·rw[zp c];exact aDr hD hcol hb a c
 rw[zn c];by_cases h8:o.k=8
 ·rw[zp h8];exact aDz hD hcol hb a h8
 ·rw[zn h8];exact aAl hD hcol hb a c h8
end
end
section
attribute [local irreducible] Ev PWp
theorem aIQ{k:Int}(h:i<O.length):yA t k N (O.take (i+1)) L=match bJ N O[i].key with
  |none=>tM t k O[i] Ln.zero O[i].key (yA t k N (O.take i) L)
  |some x=>if O[i]=x then yA t k N (O.take i) L else tM t k O[i] x O[i].key (yA t k N (O.take i) L):=lW h
theorem aJ4{k:Int}(h:i<N.length):ahV t k O (N.take (i+1)) L=if(bJ O N[i].key).isSome=true then ahV t k O (N.take i) L else tM t k Ln.zero N[i] N[i].key (ahV t k O (N.take i) L):=lW h
theorem aHq(i:Nat):(List.range (i+1)).foldl (aeG s was is) L=aeG s was is ((List.range i).foldl (aeG s was is) L) i:=by
 rw[List.range_succ,List.foldl_append];rfl
theorem ayK(u:bA T.rightP s was=true)(v:bA T.rightP s is=true)(K:BsS 200 was)(U:BsS 200 is)(L:List P4)(hl:L.length<=100000000){st:aD}{id:Nat}(Y:st id=none):
  qc 21 [.vec id 6 0 L.length, .agg (scC s), .agg (bsC was), .agg (bsC is)] (upd st id (some (.arr 59 ((L.map rgP).map Rg.z)))) (RgR st (afM s was is L)):=by
 unfold afM RgR
 obtain⟨⟨e,e1⟩,_⟩:=aS.1 u
 obtain⟨⟨_,e2⟩,_⟩:=aS.1 v
 have hsl:=lE e
 have hml:(s.map Tb.z).length=s.length:=zql _
 have g:=λk:Int=>(K.l k).1
 have j:=λk:Int=>(U.l k).1
 have C:=λk key=>mY is k key (by have:=j k;omega)
 have E:=λk key=>mY was k key (by have:=g k;omega)
 have hA:∀i,i<=s.length->((List.range i).foldl (aeG s was is) L).length<=L.length+13200*16:=λi hi=>by
  have:=fI (n:=13200) (F:=aeG s was is) (List.range i) L λk hk L=>by
   have hk:=zmr.1 hk
   have⟨_,_,I,J,_⟩:=jF e (show k<s.length by omega)
   have q1:=asE (t:=s[k]) (k:=(k:Int)) (N:=aF is (k:Int)) (O:=aF was (k:Int)) (L:=L) J I
   have q2:=asA (t:=s[k]) (k:=(k:Int)) (O:=aF was (k:Int)) (N:=aF is (k:Int)) (L:=yA s[k] (k:Int) (aF is (k:Int)) (aF was (k:Int)) L) J I
   have:=g (k:Int)
   have:=j (k:Int)
   unfold aeG
   rw[zep s k (by omega)]
   omega
  rw[List.length_range]at this
  have h16:13200*i<=13200*16:=Nat.mul_le_mul_left _ (by omega)
  omega
 refine pC func21 rfl ?_
 focus(repeat' first|apply wZ;rfl|constructor)
 refine aC (X:={x:Nat×Nat//x.1<=s.length/\st x.2=none}) (λi=>((((((St.nil 107 (upd st i.1.2 (some (.arr 59 ((((List.range i.1.1).foldl (aeG s was is) L).map rgP).map Rg.z))))).pv 0 (.vec i.1.2 6 0 ((List.range i.1.1).foldl (aeG s was is) L).length)).var 5 24 (scC s)).var 6 27 (bsC was)).var 7 27 (bsC is)).pv 9 (vi (i.1.1:Nat)))) (λi=>s.length-i.1.1) ⟨(0,id),by simp,Y⟩ ?_ λi=>?_
 ·repeat' first|exact Cn.t0|constructor
 obtain⟨⟨i,id⟩,hi,a⟩:=i
 simp only at hi a
 dsimp only
 by_cases hend:s.length<=i
 ·obtain rfl:i=s.length:=by omega
  repeat' first|refine Cn.rr ?_;exact⟨id,rfl,a,rfl⟩;done|apply wZ;rfl|omega|constructor|intro h;simp at h
 have hk:i<s.length:=by omega
 have P:(List.range (i+1)).foldl (aeG s was is) L=ahV s[i]! (i:Nat) (aF was (i:Nat)) (aF is (i:Nat)) (yA s[i]! (i:Nat) (aF is (i:Nat)) (aF was (i:Nat)) ((List.range i).foldl (aeG s was is) L)):=aHq i
 rw[zep s i hk]at P
 have hAi:=hA i hi
 clear hA
 generalize(List.range i).foldl (aeG s was is) L=p at*
 have⟨_,_,I,J,_⟩:=jF e hk
 have l1:=iL was (i:Int)
 have l2:=iL is (i:Int)
 have l:∀x∈aF was (i:Int),LnIn s i x:=λx hx=> .inl ⟨was,u,hx⟩
 have m:∀x∈aF is (i:Int),LnIn s i x:=λx hx=> .inl ⟨is,v,hx⟩
 have M:∀x∈aF was (i:Int), -1099511627776<=x.key/\x.key<=1099511627776:=λx hx=>by
  have hL:=vA u hk hx
  have:=hL.k1;have:=hL.k2
  omega
 have V:∀x∈aF is (i:Int), -1099511627776<=x.key/\x.key<=1099511627776:=λx hx=>by
  have hL:=vA v hk hx
  have:=hL.k1;have:=hL.k2
  omega
 have S:=(K.l (i:Int)).2
 have n1:=g (i:Int)
 have n2:=j (i:Int)
 have C:=C (i:Int)
 have E:=E (i:Int)
 have W:∀key x,bJ (aF is (i:Int)) key=some x->x∈aF is (i:Int):=λkey x h=>rJ h
 generalize aF was (i:Int)=O at*
 generalize aF is (i:Int)=N at*
 have Z:∀y,y<=O.length->(yA s[i] (i:Nat) N (O.take y) p).length<=p.length+6600:=λy hy=>by
  have:=asE (t:=s[i]) (k:=((i:Nat):Int)) (N:=N) (O:=O.take y) (L:=p) J I
  rw[zlt]at this
  omega
 focus(repeat' first|apply Cn.cf;focus((apply l1);done)|apply wZ;rfl|omega|constructor|apply wY;rfl|intro h;simp at h)
 refine aC (X:={x:Nat×Nat//x.1<=O.length/\st x.2=none}) (λy=>((((((((St.nil 107 (upd st y.1.2 (some (.arr 59 (((yA s[i] (i:Nat) N (O.take y.1.1) p).map rgP).map Rg.z))))).pv 0 (.vec y.1.2 6 0 (yA s[i] (i:Nat) N (O.take y.1.1) p).length)).var 5 24 (scC s)).var 6 27 (bsC was)).var 7 27 (bsC is)).pv 9 (vi (i:Nat))).pv 10 (.seq (O.map Ln.z))).pv 11 (vi (y.1.1:Nat)))) (λy=>O.length-y.1.1) ⟨(0,id),by simp,a⟩ ?_ λy=>?_
 ·repeat' first|exact Cn.t0|constructor
 obtain⟨⟨y,id⟩,hy,a⟩:=y
 simp only at hy a
 dsimp only
 have R:=Z y hy
 by_cases A:O.length<=y
 ·rw[ztl A]at R⊢
  clear Z;generalize yA s[i] (i:Nat) N O p=q at*;have hN:∀y,y<=N.length->(ahV s[i] (i:Nat) O (N.take y) q).length<=q.length+6600:=λy hy=>by
   have:=asA (t:=s[i]) (k:=((i:Nat):Int)) (O:=O) (N:=N.take y) (L:=q) J I
   rw[zlt]at this
   omega
  focus(repeat' first|apply Cn.cf;focus((apply l2);done)|apply wZ;rfl|constructor|apply wY;rfl|simp<;>omega|intro h;simp at h)
  refine aC (X:={x:Nat×Nat//x.1<=N.length/\st x.2=none}) (λz=>((((((((St.nil 107 (upd st z.1.2 (some (.arr 59 (((ahV s[i] (i:Nat) O (N.take z.1.1) q).map rgP).map Rg.z))))).pv 0 (.vec z.1.2 6 0 (ahV s[i] (i:Nat) O (N.take z.1.1) q).length)).var 5 24 (scC s)).var 6 27 (bsC was)).var 7 27 (bsC is)).pv 9 (vi (i:Nat))).pv 14 (.seq (N.map Ln.z))).pv 15 (vi (z.1.1:Nat)))) (λz=>N.length-z.1.1) ⟨(0,id),by simp,a⟩ ?_ λz=>?_
  ·repeat' first|exact Cn.t0|constructor
  obtain⟨⟨z,id⟩,hz,a⟩:=z;simp only at hz a;dsimp only;have Q:=hN z hz;by_cases B:N.length<=z
  ·rw[ztl B]at Q⊢
   repeat' first|refine⟨⟨(i+1,id),by simp only;omega,a⟩,?_,?_⟩;(dsimp only;rw[P];try rfl)|apply wZ;rfl|omega|constructor|simp<;>omega|intro h;simp at h
  have G:z<N.length:=by omega
  have d:=aJ4 (t:=s[i]) (k:=((i:Nat):Int)) (O:=O) (L:=q) G;have hg:=E N[z].key;rw[mS]at hg;have hl:=aiR e hk Ln.zero N[z] N[z].key (V _ (zgm G)) (.inr rfl) (m _ (zgm G)) (ahV s[i] (i:Nat) O (N.take z) q) (by omega) a;cases H:bJ O N[z].key with
  |none=>
   rw[H]at hg d;rw[zn (by simp)]at d;rw[<-d]at hl
   (repeat' first|apply wDO pk [0,1,2,3,4,5,6,7,8,9,10,11,12,13] [] [] [] [];rfl;rfl;kernel_rfl;rfl;rfl|apply wDO pk [0,1,2,3,4,5,6,7,8,9,10,11,12,13,14] [13] [] [13] [];rfl;rfl;kernel_rfl;rfl;rfl|apply Cn.cf;focus((apply hg);done)|apply cP;rfl;apply hl;rintro _ st' (⟨id2,rfl,hid2,rfl⟩)|refine⟨⟨(z+1,id2),by simp only;omega,hid2⟩,?_,?_⟩|exact Cn.t0|apply wZ;rfl|omega|constructor|apply wY;rfl|apply wI;rfl|apply gE;omega|simp<;>omega|intro h;simp at h)
  |some x=>
   rw[H]at hg d;rw[zp (by simp)]at d
   repeat' first|refine⟨⟨(z+1,id),by simp only;omega,a⟩,?_,?_⟩;(dsimp only;rw[d];try rfl)|apply wZ;rfl|apply KR.mk;kernel_rfl|omega|constructor|apply hg|apply wY;rfl|apply wI;rfl|apply gE;omega|simp<;>omega|intro h;simp at h
 have f:y<O.length:=by omega
 have c:=aIQ (t:=s[i]) (k:=((i:Nat):Int)) (N:=N) (L:=p) f
 have hg:=C O[y].key
 rw[mS]at hg
 have ha:=aBc (S _ (zgm f))
 cases H:bJ N O[y].key with
 |none=>
  rw[H]at hg c;dsimp only at c;have hl:=aiR e hk O[y] Ln.zero O[y].key (M _ (zgm f)) (l _ (zgm f)) (.inr rfl) (yA s[i] (i:Nat) N (O.take y) p) (by omega) a;rw[<-c]at hl;have ha:=ha Ln.zero;generalize decide (O[y]=Ln.zero)=D at*
  (repeat' first|apply wDO pk [0,1,2,3,4,5,6,7,8,9,10,11,12,13] [] [] [] [];rfl;rfl;kernel_rfl;rfl;rfl|apply wDO pk [0,1,2,3,4,5,6,7,8,9,10] [] [] [] [];rfl;rfl;kernel_rfl;rfl;rfl|apply wDO pk [0,1,2,3,4,5,6,7,8,9,10,11,12,13,14] [13] [] [13] [];rfl;rfl;kernel_rfl;rfl;rfl|apply Cn.cf;focus(((first|apply hg|apply ha));done)|apply cP;rfl;apply hl;rintro _ st' (⟨id2,rfl,hid2,rfl⟩)|refine⟨⟨(y+1,id2),by simp only;omega,hid2⟩,?_,?_⟩|exact Cn.t0|apply wZ;rfl|omega|constructor|apply wY;rfl|apply wI;rfl|apply gE;omega|simp<;>omega|intro h;simp at h)
 |some x=>
  rw[H]at hg c;dsimp only at c;have ha:=ha x;by_cases hx:O[y]=x
  ·rw[zp hx]at c
   rw[zdt hx]at ha
   repeat' first|refine⟨⟨(y+1,id),by simp only;omega,a⟩,?_,?_⟩;(dsimp only;rw[c];try rfl)|apply wZ;rfl|apply KR.mk;kernel_rfl|omega|constructor|(first|apply hg|apply ha)|apply wY;rfl|apply wI;rfl|apply gE;omega|simp<;>omega|intro h;simp at h
  ·rw[zn hx]at c
   rw[zdj hx]at ha;have hl:=aiR e hk O[y] x O[y].key (M _ (zgm f)) (l _ (zgm f)) (m _ (W _ _ H)) (yA s[i] (i:Nat) N (O.take y) p) (by omega) a;rw[<-c]at hl
   repeat' first|apply wDO pk [0,1,2,3,4,5,6,7,8,9,10,11,12,13] [] [] [] [];rfl;rfl;kernel_rfl;rfl;rfl|apply wDO pk [0,1,2,3,4,5,6,7,8,9,10] [] [] [] [];rfl;rfl;kernel_rfl;rfl;rfl|apply wDO pk [0,1,2,3,4,5,6,7,8,9,10,11,12,13,14] [13] [] [13] [];rfl;rfl;kernel_rfl;rfl;rfl|apply Cn.cf;focus(((first|apply hg|apply ha));done)|apply cP;rfl;apply hl;rintro _ st' (⟨id2,rfl,hid2,rfl⟩)|refine⟨⟨(y+1,id2),by simp only;omega,hid2⟩,?_,?_⟩|exact Cn.t0|apply wZ;rfl|omega|constructor|apply wY;rfl|apply wI;rfl|apply gE;omega|simp<;>omega|intro h;simp at h
theorem aJR{R:Bs×Int}(h:bV w s b o=R)(h0:R.2≠0):R.1=[]:=by
 unfold bV aBd ahD oY at*
 grind
theorem aId(f:ScK s)(hD:DoB n w s b o):qf 20 [.agg (scC s), .agg (bsC b), .agg o.z, .agg w.who.z, .seq (w.knew.map I1)] (jA (doP w s b o)):=by
 have c:=pK (f.ck hD.S (by omega)) w hD.kn;unfold doP;rcases hR:rightW w s b with _|_
 rw[hR]at c;rw[zn (by simp)];rotate_left;rw[hR]at c;rw[zp rfl];have d:=agA hD f.n (eP.1 hR).2.1;generalize g:bV w s b o=R at*;unfold jA at d;by_cases a:R.2≠0;have e:R=([],R.2):=Prod.ext (aJR g a) rfl;rw[e];rotate_left;have⟨B,e⟩:=R;have a:e=0:=zdn a;subst a
 all_goals (refine pF func20 rfl λst=>?_;repeat'(first|exact Cn.any ⟨_,_,_,rfl,jJ _,zsr _,rfl,rfl⟩|apply wZ;rfl|omega|constructor|(first|apply c|apply d)|apply wY;rfl|intro h))
theorem alE(d:ScK s)(r:OpW n b)(hn:n+l.length<=20)(hk:w.knew.length<1000000000000)(hf:∀o∈l,oC o):qf 19 [.agg (scC s), .agg (bsC b), .seq (l.map Ot.z), .agg w.who.z, .seq (w.knew.map I1)] (jA (jV w s b l)):=by
 have j:=pK (d.ck (r.S (by omega)) (by omega)) w hk;unfold jV;rcases hR:rightW w s b with _|_
 rw[hR]at j;rw[zp rfl];refine pF func19 rfl λst=>?_;rotate_left;rw[hR]at j;rw[zn (by simp),zn (by omega)];have⟨_,hb,hm⟩:=eP.1 hR;have m:=λi (hi:i<=l.length) (h0:(aV w s b (l.take i)).2=0)=>mX hm (l:=l.take i) hb r (λo ho=>hf o (List.mem_of_mem_take ho)) h0;refine pF func19 rfl λst=>?_
 focus(repeat' first|apply wZ;rfl|constructor|apply j|apply wY;rfl|simp<;>omega|intro h;simp at h)
 refine aC (X:={x:Nat//x<=l.length/\(aV w s b (l.take x)).2=0}) (λi=>((((((((St.nil 60 st).pv 2 (.seq (l.map Ot.z))).pv 4 (.seq (w.knew.map I1))).var 5 24 (scC s)).var 6 27 (bsC (aV w s b (l.take i.1)).1)).var 8 30 (w.who.z)).var 10 27 ([.val (.slice none 0 0)])).pv 13 (vi (i.1:Nat)))) (λi=>l.length-i.1) ⟨0,by omega,rfl⟩ ?_ λi=>?_;rotate_left;have⟨i,hi,h0⟩:=i;dsimp only;have⟨v,k⟩:=m i hi h0;rw[zlt,Nat.min_eq_left hi]at k;by_cases f:l.length<=i;have e:l.take i=l:=ztl f;rw[e]at h0 v k⊢;rw[zn (by simp[h0])];have hy:=aEq (d.ck (k.S (by omega)) (by omega));generalize(aV w s b l).1=B at*;generalize whyC s B=Y at*;by_cases u:Y≠0;rw[zp u];rotate_left;rw[zn u];rotate_left;have g:i<l.length:=by omega
 have c:=aeT g h0;have p:=λh=>ahM (i:=i+1) (l:=l) (w:=w) (s:=s) (b:=b) h;have q:=agA (w:=w) (o:=l[i]) (n:=n+i) ⟨d.sb,d.len,k,by omega,hk,hf _ (zgm g)⟩ d.n v;generalize(aV w s b (l.take i)).1=B at*;generalize bV w s B l[i]=R at*;unfold jA at q;by_cases a:R.2≠0;rw[zp a]at c;have e:=p (by rw[c];exact a);rw[e,c,zp a];rotate_left;rw[zn a]at c;have a:=zdn a
 all_goals (repeat' first|refine⟨⟨i+1,by omega,by rw[c]⟩,?_,?_⟩;dsimp only;rw[c]|exact Cn.any ⟨_,_,_,rfl,jJ _,zsr _,rfl,rfl⟩|apply wZ;rfl|apply KR.mk;kernel_rfl|omega|constructor|apply hy|exact rfl|apply q|apply j|apply wY;rfl|apply wI;rfl|apply gE;omega|simp<;>omega|intro h;simp at h|intro h)
theorem alO{w:Wr}{s:Sc}:∀{l:List Ot}{b:Bs}{L:List P4}{o:Ot},(aV w s b l).2=0->oZ w s b (l++[o]) L=afM s (aV w s b l).1 (bV w s (aV w s b l).1 o).1 (oZ w s b l L)
 |[],_,_,_,_=>rfl
 |p::r,b,L,o,h=>by
  have⟨_,e⟩:=rS h
  show oZ w s _ (r++[o]) _=_
  rw[alO (e▸h),e];rfl
theorem aJZ(hi:i<l.length)(h:(aV w s b (l.take i)).2=0):oZ w s b (l.take (i+1)) L=afM s (aV w s b (l.take i)).1 (bV w s (aV w s b (l.take i)).1 l[i]).1 (oZ w s b (l.take i) L):=by
 rw[zts _,alO h]
theorem aM3(D:ScK s)(E:OpW n b)(hn:n+l.length<=20)(hk:w.knew.length<1000000000000)(hf:∀o∈l,oC o)(hl:l.length≠0)(h0:(jV w s b l).2=0):qf 7 [.agg (scC s), .agg (bsC b), .seq (l.map Ot.z), .agg w.who.z, .seq (w.knew.map I1)] (.tup [.seq ((ofP w s b l).1.map Rg.z),vi 0]):=by
 intro st;have h1:=alE D E hn hk hf;have m:=aAA (w:=w) D E hn hf;have⟨r1,r2,r3,r4⟩:=ayV h0;have⟨_,Z,r6⟩:=eP.1 r1;have⟨f1,f2⟩:=mX r6 Z E hf r2;have e:(ofP w s b l).1=(oZ w s b l []).map rgP++((sumsP s b (aV w s b l).1).filter λx=>decide (x.2.2.2>0)).map rgS:=by unfold ofP;rw[zn hl,zn (by simp[h0]),r4,aBm]
 have hx:jV w s b l=((aV w s b l).1,0):=Prod.ext r4 h0;rw[hx]at h1;rw[e]at m⊢;have p:=λi=>aCr r2 i;have d:=λ(i:Nat)(hi:i<=l.length)=>mX r6 (l:=l.take i) Z E (λo ho=>hf o (List.mem_of_mem_take ho)) (p i);have hSl:(sumsP s b (aV w s b l).1).length<=102400:=abV (λj=>by have:=(fD E j).1;omega) (λj=>by have:=(fD f2 j).1;omega);have H:=asW (D.ck (E.S (by omega)) (by omega)) (D.ck (f2.S (by omega)) (by omega));have y:∀i,i<=l.length->(oZ w s b (l.take i) []).length<=64160000:=λi hi=>by
  rw[aBm,(eC eK _).length_eq]
  have:=aeO (aqD (aS.1 Z).1.1) (w:=w) (l:=l.take i) (M:=[]) E (by rw[zlt];omega) λo ho=>hf o (List.mem_of_mem_take ho)
  rw[zlt,List.length_nil]at this
  have h20:3208000*min i l.length<=3208000*20:=Nat.mul_le_mul_left _ (by omega)
  omega
 rw[zla,zql,zql]at m;have hlm:(l.map Ot.z).length=l.length:=zql _;have a:∀i (hi:i<l.length),bV w s (aV w s b (l.take i)).1 l[i]=((aV w s b (l.take (i+1))).1,0):=λi hi=>by
  have q:=aeT hi (p i)
  have Q:=p (i+1)
  by_cases z:(bV w s (aV w s b (l.take i)).1 l[i]).2≠0
  ·rw[zp z]at q;rw[q]at Q;exact absurd Q z
  ·rw[zn z]at q
   rw[q];exact Prod.ext rfl (zdn z)
 have I:∀i (hi:i<l.length),qf 20 [.agg (scC s), .agg (bsC (aV w s b (l.take i)).1), .agg l[i].z, .agg w.who.z, .seq (w.knew.map I1)] (jA ((aV w s b (l.take (i+1))).1,0)):=λi hi=>by
  have⟨q1,Q⟩:=d i (by omega)
  rw[zlt,Nat.min_eq_left (by omega)]at Q
  have q:=aId (w:=w) (o:=l[i]) D (n:=n+i) ⟨D.sb,D.len,Q,by omega,hk,hf _ (zgm hi)⟩
  unfold doP at q
  rw[zp (eP.2 ⟨(eP.1 r1).1,q1,r6⟩),a i hi]at q
  exact q
 have v:∀i (hi:i<l.length),oZ w s b (l.take (i+1)) []=afM s (aV w s b (l.take i)).1 (aV w s b (l.take (i+1))).1 (oZ w s b (l.take i) []):=λi hi=>by
  rw[aJZ hi (p i),a i hi]
 have r:∀i (hi:i<l.length) (id:Nat) (g:st id=none),_:=λi hi id g=>ayK (d i (by omega)).1 (d (i+1) (by omega)).1 ((d i (by omega)).2.S (by rw[zlt];omega)) ((d (i+1) (by omega)).2.S (by rw[zlt];omega)) (oZ w s b (l.take i) []) (by have:=y i (by omega);omega) g;clear a d p;have C:(aV w s b (l.take l.length)).1=(aV w s b l).1:=by rw[List.take_length]
 have J:oZ w s b (l.take l.length) []=oZ w s b l []:=by rw[List.take_length]
 have hl2:¬l=[]:=λe=>hl (by rw[e];rfl);refine pC func7 rfl ?_
 focus(repeat' first|apply Cn.cf;focus((apply h1);done)|apply wZ;rfl|omega|constructor|apply wY;rfl|intro h;simp at h)
 refine cL 14 59 6 rfl rfl rfl λid g=>?_;have g:st id=none:=g;refine aC (X:={x:Nat×Nat//x.1<=l.length/\st x.2=none}) (λi=>((((((((((St.nil 102 (upd st i.1.2 (some (.arr 59 (((oZ w s b (l.take i.1.1) []).map rgP).map Rg.z))))).pv 2 (.seq (l.map Ot.z))).pv 4 (.seq (w.knew.map I1))).var 5 24 (scC s)).var 6 27 (bsC b)).var 8 30 (w.who.z)).var 12 27 (bsC (aV w s b l).1)).pv 14 (.vec i.1.2 6 0 (oZ w s b (l.take i.1.1) []).length)).var 15 27 (bsC (aV w s b (l.take i.1.1)).1)).pv 16 (vi (i.1.1:Nat)))) (λi=>l.length-i.1.1) ⟨(0,id),by simp,g⟩ ?_ λi=>?_
 ·repeat' first|exact Cn.t0|constructor
 obtain⟨⟨i,P⟩,hi,k⟩:=i;simp only at hi k;dsimp only;by_cases hend:¬l.length<=i
 ·have G:i<l.length:=by omega
  have hd:=I i G;have ht:=r i G P k;rw[<-v i G]at ht
  repeat' first|apply Cn.cf;focus((apply hd);done)|apply cP;rfl;apply ht;rintro _ st' (⟨id2,rfl,hid2,rfl⟩)|refine⟨⟨(i+1,id2),by simp only;omega,hid2⟩,?_,?_⟩|exact Cn.t0|apply wZ;rfl|apply KR.mk;kernel_rfl|omega|constructor|apply wY;rfl|apply wI;rfl|apply gE;omega|simp<;>omega|intro h;simp at h
 obtain rfl:i=l.length:=by omega
 rw[J,C];clear I v r C J y;generalize(aV w s b l).1=B at*;have R:((oZ w s b l []).map rgP).length=(oZ w s b l []).length:=zql _;rw[<-R]at m⊢;generalize(oZ w s b l []).map rgP=A at*;generalize hL:sumsP s b B=L at*;have hAl:A.length<=100000000:=by omega
 have V:=λj=>List.length_filter_le (λx:S4=>decide (x.2.2.2>0)) (L.take j)
 focus(repeat' first|apply Cn.cf;focus((apply H);done)|apply wZ;rfl|omega|constructor|apply wY;rfl|intro h;simp at h)
 refine aC (X:={x:Nat×Nat//x.1<=L.length/\st x.2=none}) (λz=>((((St.nil 102 (upd st z.1.2 (some (.arr 59 ((A++((L.take z.1.1).filter λx=>decide (x.2.2.2>0)).map rgS).map Rg.z))))).pv 14 (.vec z.1.2 6 0 (A++((L.take z.1.1).filter λx=>decide (x.2.2.2>0)).map rgS).length)).pv 19 (.seq (L.map s4C))).pv 20 (vi (z.1.1:Nat)))) (λz=>L.length-z.1.1) ⟨(0,P),by simp,k⟩ ?_ λz=>?_
 ·dsimp only
  rw[show A++((L.take 0).filter λx=>decide (x.2.2.2>0)).map rgS=A from by simp]
  repeat' first|exact Cn.t0|constructor
 obtain⟨⟨z,id3⟩,hz,c⟩:=z;simp only at hz c;dsimp only;have hfz:=V z;by_cases U:L.length<=z
 ·obtain rfl:z=L.length:=by omega
  rw[List.take_length]
  repeat' first|refine uQ 10 rfl (aA _ _ _) aB1 (by simp) ?_;refine yJ ?_;exact Cn.any ⟨_,_,st,rfl,zwr _,aG (aG (zsr _) c) c,rfl,rfl⟩|apply wZ;rfl|constructor|simp<;>omega|intro h;simp at h
 have W:z<L.length:=by omega
 have u:=amI W;have hfl2:((L.take z).filter λx=>decide (x.2.2.2>0)).length<=100000000:=by
  have:=((List.take_sublist z L).filter λx:S4=>decide (x.2.2.2>0)).length_le;omega
 by_cases O:L[z].2.2.2>0
 ·rw[zp O]at u
  generalize(L.take z).filter (λx=>decide (x.2.2.2>0))=F at*;have K:A++((L.take (z+1)).filter λx=>decide (x.2.2.2>0)).map rgS=A++F.map rgS++[rgS L[z]]:=by rw[u,zmd,<-zas];rfl
  have hAF:(A++F.map rgS).length=A.length+F.length:=by simp
  repeat' first|apply wD pk [23] [];kernel_rfl;rfl;rfl|refine⟨⟨(z+1,Y),by simp only;omega,aI N⟩,?_,?_⟩;dsimp only;rw[K]|exact Cn.any (aM ‹_›)|apply wZ;rfl|omega|constructor|show _=_;simp;omega|apply apV pk (f:=Rg.z) [rgS L[z]] 48;(iterate 9 rfl);exact aA _ _ _;omega;exactλ_=>rfl;exactλ_=>rfl;exact yE;(focus(simp;omega));(focus(simp;omega));rfl;intro Y N|apply axM pk (j:=0);(iterate 5 rfl);rotate_left;rfl;intro _;rfl;intro _;decide;intro _;rfl;rfl|apply axM pk (j:=1);(iterate 5 rfl);rotate_left;rfl;intro _;rfl;intro _;decide;intro _;rfl;rfl|apply axM pk (j:=2);(iterate 5 rfl);rotate_left;rfl;intro _;rfl;intro _;decide;intro _;rfl;rfl|apply axM pk (j:=3);(iterate 5 rfl);rotate_left;rfl;intro _;rfl;intro _;decide;intro _;rfl;rfl|apply wI;rfl|apply gE;omega|simp<;>omega|intro h;simp at h
 ·rw[zn O,List.append_nil]at u
  repeat' first|refine⟨⟨(z+1,id3),by simp only;omega,c⟩,?_,?_⟩;dsimp only;rw[u]|apply wZ;rfl|omega|constructor|apply axM pk (j:=3);(iterate 5 rfl);rotate_left;rfl;intro _;rfl;intro _;decide;intro _;rfl;rfl|apply wI;rfl|apply gE;omega|simp<;>omega|intro h;simp at h
theorem aOc(hl:A.length=B.length)(h:∀x∈A.zip B,WkL x.1 x.2):Wk (.seq A) (.seq B):=by
 have:=Wk.rows h;rwa[List.map_fst_zip (by omega),List.map_snd_zip (by omega)]at this
theorem wk1{b:List PV}(h:WkL a b):Wk (.seq [a]) (.seq [b]):=aOc rfl λx hx=>by simp_all
theorem wk2{b:List PV}(h:WkL a b)(k:WkL c d):Wk (.seq [a,c]) (.seq [b,d]):=aOc rfl λx hx=>by
 simp at hx
 grind
def acB :PV:= .val (.slice none 0 0)
structure ScG (s:Sc):Prop where
 l:s.length<200000000000000
 b:ScB s
 k:∀t∈s,tH t
end
section
attribute [local irreducible] Ev PWp
theorem aBi(s:Sc)(b:Bs)(l:List Ot)(kn:List Int)(hs:ScG s)(hb:BsB b)(hl:l.length<200000000000000)(a:∀o∈l,o.r.length<200000000000000):qf 4 [.agg (scC s), .agg (bsC b), .seq (l.map Ot.z), .seq (kn.map I1)] (vb ((fewC s b&&(decide ((l.length:Int)<=12)&&l.all jO))&&decide ((kn.length:Int)<=80))):=by
 have c:=aEg s b hs.l hs.b hs.k hb;have d:=aqR l 12 hl a;generalize fewC s b=F at*;generalize(decide ((l.length:Int)<=12)&&l.all jO)=G at*;refine pF func4 rfl λst=>?_
 repeat' first|apply wZ;rfl|constructor|(first|apply c|apply d)|show(_:PV)=_;simp;done;done|apply wY;rfl
section
variable(hA:qf 5 [] (vb (true)))
include hA
end
end
section
attribute [local irreducible] Ev PWp
def cxP :Co:=⟨⟨#[112]⟩,0,1,true⟩
def cxU :Co:=⟨⟨#[117]⟩,0,1,false⟩
def cxN :Co:=⟨⟨#[110]⟩,0,1,false⟩
def cxA :Tb:=⟨⟨#[97]⟩,[colId],[],[],[],[]⟩
def cxB :Tb:=⟨⟨#[98]⟩,[colId,cxP,cxU,cxN],[2],[],[⟨1,0,1⟩],[⟨3,1,9⟩]⟩
def cxS :Sc:=[cxA,cxB]
def aLD :List PV:=[.seq [[.val (.string ⟨#[97]⟩), .seq [colId.z],acB,acB,acB,acB],[.val (.string ⟨#[98]⟩), .seq ([colId,cxP,cxU,cxN].map Co.z), .seq [[vi 2]],acB, .seq [[vi 1,vi 0,vi 1]], .seq [[vi 3,vi 1,vi 9]]]]]
theorem aFN :Wk (.agg aLD) (.agg (scC cxS)):=
 Wk.agg (.cons (wk2 (.cons (zwr _) (.cons (zwr _) (.cons Wk.nil (.cons Wk.nil (.cons Wk.nil (.cons Wk.nil .nil)))))) (.cons (zwr _) (.cons (zwr _) (.cons (zwr _) (.cons Wk.nil (.cons (zwr _) (.cons (zwr _) .nil))))))) .nil)
theorem nU(n:Int):qf 12 [vi n] (.agg (nV n).z):=by
 refine pF func12 rfl λst=>?_
 repeat' first|apply wZ;rfl|constructor
def cxC(n:Int):Cl:=⟨0,nV n,[]⟩
def cxL :Ln:=⟨3,[cxC 3],[]⟩
def aNM :List PV:=[vi 3, .seq [[vi 0,vi 1,vi 3,vs e0,acB]],acB]
theorem aMC :Wk (.agg aNM) (.agg cxL.z):=Wk.agg (.cons (zwr _) (.cons (wk1 (.cons (zwr _) (.cons (zwr _) (.cons (zwr _) (.cons (zwr _) (.cons Wk.nil .nil)))))) (.cons Wk.nil .nil)))
def cx0 :Bs:=[⟨[cxL]⟩,⟨[]⟩]
theorem avB :qf 11 [] (.tup [.agg (scC cxS), .agg (bsC cx0)]):=by
 have a:qf 28 [.agg aLD] (.agg (bsC (aJx cxS))):=λst=>PC.wkArgs (.cons aFN .nil) (aIs cxS (by decide) st);have c:=nU 3;have e:qf 27 [.agg (bsC (aJx cxS)),vi 0, .agg aNM] (.agg (bsC cx0)):=λst=>PC.wkArgs (.cons (zwr _) (.cons (zwr _) (.cons aMC .nil))) (afN (aJx cxS) 0 cxL (by decide) (λd hd=>by
  have hd:d∈[(⟨[]⟩:Da),⟨[]⟩]:=hd
  simp only[zmc,List.not_mem_nil,or_false,or_self]at hd
  subst hd;decide) st)
 have hw:Wk (.tup [.agg aLD, .agg (bsC cx0)]) (.tup [.agg (scC cxS), .agg (bsC cx0)]):=Wk.tup (.cons aFN (.cons (zwr _) .nil));refine pF func11 rfl λst=>?_
 repeat' first|apply aiN 5;rfl;rfl|exact Cn.any ⟨_,_,_,rfl,hw,zsr _,rfl,rfl⟩|apply wDO pk [0,1,2,3,4,5,6,7,8,9] [1] [] [1] [];rfl;rfl;kernel_rfl;rfl;rfl|apply Cn.cf;focus(((first|apply a|apply c|apply e));done)|apply wZ;rfl|constructor|apply ldZ pk;iterate 4 rfl|apply wY;rfl
def cxO :Ot:=⟨1,1,0,0,[nV 5,nV 3,nV 8,nV 4],Vl.zero,Dt.zero,0⟩
def cxD :Ot:=⟨8,0,9,0,[],Vl.zero,Dt.zero,0⟩
def aN9 :List PV:=[vi 8,vi 0,vi 9,vi 0,acB,vi 0,vi 0,vs e0,vi 0,vi 0,vi 0]
theorem aLT :WkL aN9 cxD.z:= .cons (zwr _) (.cons (zwr _) (.cons (zwr _) (.cons (zwr _) (.cons Wk.nil (.cons (zwr _) (.cons (zwr _) (.cons (zwr _) (.cons (zwr _) (.cons (zwr _) (.cons (zwr _) .nil))))))))))
def cxW :Wr:=⟨⟨1,1,1⟩,[]⟩
def cxM :Ln:=⟨5,[cxC 5,cxC 3,cxC 8,cxC 4],[⟨1,1⟩]⟩
def cx1 :Bs:=[⟨[cxL]⟩,⟨[cxM]⟩]
theorem aOd :ScB cxS:=λt ht=>by
 simp only[cxS,zmc,List.not_mem_nil,or_false]at ht
 rcases ht with rfl|rfl<;>constructor<;>simp[cxA,cxB]
theorem cxS_K :ScK cxS:=⟨aOd,by decide,λt ht=>by
 simp only[cxS,zmc,List.not_mem_nil,or_false]at ht
 rcases ht with rfl|rfl<;>decide,λt ht c hc=>by
 simp only[cxS,zmc,List.not_mem_nil,or_false]at ht
 rcases ht with rfl|rfl<;>cases hc⟩
theorem aOA :bA T.rightP cxS cx0=true:=rfl
theorem aLh :jV cxW cxS cx0 [cxO]=(cx1,0):=rfl
theorem aHy :jV cxW cxS cx0 [cxD]=([],4):=rfl
theorem cx0W :OpW 0 cx0:=⟨by decide,λd hd=>by
 have hd:d∈[(⟨[cxL]⟩),⟨[]⟩]:=hd
 simp at hd
 rcases hd with rfl|rfl
 ·refine⟨by simp,λl hl=>?_⟩
  rw[zms.1 hl]
  trivial
 simp⟩
theorem cx1W :OpW 1 cx1:=by
 have h:=(aaZ (w:=cxW) (o:=cxO) rfl aOA cx0W (aaV.1 rfl) rfl).2
 simpa
theorem aMc :sumsP cxS cx0 cx1=[(1,0,3,4)]:=rfl
def cxR :List Rg:=[⟨1,0,0,3,4,0⟩,⟨1,1,0,5,6,0⟩,⟨2,1,2,8,9,0⟩,⟨3,1,0,3,0,4⟩]
theorem aOw :(ofP cxW cxS cx0 [cxO]).1=cxR:=rfl
theorem aIa(o:Ot)(h:jO o=true):∀x∈[o],oC x:=λx hx=>by rw[zms.1 hx];exact aaV.1 h
theorem aHU(a:List Rg)(h:a.length<1000000000000):qf 8 [.seq (a.map Rg.z), .seq (a.map Rg.z)] (vb true):=by
 refine pF func8 rfl λst=>?_
 focus(repeat' first|apply wZ;rfl|omega|constructor|intro h;simp at h)
 refine aC (X:={x:Nat//x<=a.length}) (λi=>((((St.nil 26 st).pv 0 (.seq (a.map Rg.z))).pv 1 (.seq (a.map Rg.z))).pv 5 (vi (i.1:Nat)))) (λi=>a.length-i.1) ⟨0,by omega⟩ ?_ λi=>?_;rotate_left;have⟨i,hi⟩:=i;dsimp only;by_cases c:a.length<=i;rotate_left;have d:i<a.length:=by omega
 all_goals (repeat' first|refine⟨⟨i+1,by omega⟩,?_,?_⟩|apply wZ;rfl|apply KR.mk;kernel_rfl|omega|constructor|apply wI;rfl|apply gE;omega|simp<;>omega|intro h;simp at h;done|intro h;simp at h)
theorem ayY :qf 5 [] (vb true):=by
 have a:=avB;have g:=nU 5;have i:=nU 3;have j:=nU 8;have n4:=nU 4;have c:qf 6 [.agg (scC cxS), .agg (bsC cx0), .seq [cxO.z], .agg [vi 1,vi 1,vi 1],acB] (.tup [.seq (cxR.map Rg.z),vi 0]):=λst=>by
  have h:=aLb (w:=cxW) cxS_K cx0W (l:=[cxO]) (by decide) (by decide) (aIa cxO (by kernel_rfl)) (by decide) (by rw[aLh]) st
  rw[aOw]at h
  exact PC.wkArgs (.cons (zwr _) (.cons (zwr _) (.cons (zwr _) (.cons (zwr _) (.cons Wk.nil .nil))))) h
 have d:qf 13 [.agg (scC cxS), .agg (bsC cx0), .seq [cxO.z], .agg [vi 1,vi 1,vi 1],acB] (.tup [.agg (bsC cx1),vi 0]):=λst=>by
  have h:=abG (w:=cxW) cxS_K cx0W (l:=[cxO]) (by decide) (by decide) (aIa cxO (by kernel_rfl)) st
  rw[aLh]at h
  exact PC.wkArgs (.cons (zwr _) (.cons (zwr _) (.cons (zwr _) (.cons (zwr _) (.cons Wk.nil .nil))))) h
 have h4:qf 14 [.agg (scC cxS), .agg (bsC cx0), .agg (bsC cx1)] (.seq [[vi 1,vi 0,vi 3,vi 4]]):=by
  have h:=ajW (cxS_K.ck (cx0W.S (by decide)) (by decide)) (cxS_K.ck (cx1W.S (by decide)) (by decide));rw[aMc]at h;exact h
 have h5:qf 6 [.agg (scC cxS), .agg (bsC cx0), .seq [aN9], .agg [vi 1,vi 1,vi 1],acB] (.tup [.seq [],vi 4]):=λst=>by
  have h:=aLg (w:=cxW) cxS_K cx0W (l:=[cxD]) (by decide) (by decide) (aIa cxD (by kernel_rfl)) (by decide) (by rw[aHy];simp) st
  rw[show ofP cxW cxS cx0 [cxD]=([],4)from by unfold ofP;rw[zn (by simp),aHy,zp (by simp)]]at h
  exact PC.wkArgs (.cons (zwr _) (.cons (zwr _) (.cons (wk1 aLT) (.cons (zwr _) (.cons Wk.nil .nil))))) h
 have e:qf 6 [.agg (scC cxS), .agg (bsC cx0),acB, .agg [vi 1,vi 1,vi 1],acB] (.tup [.seq [],vi 0]):=λst=>by
  have h:=aLl cxW cxS cx0 st
  rw[show ofP cxW cxS cx0 []=([],0)from by unfold ofP;rw[zp (show([]:List Ot).length=0 from rfl)]]at h
  exact PC.wkArgs (.cons (zwr _) (.cons (zwr _) (.cons Wk.nil (.cons (zwr _) (.cons Wk.nil .nil))))) h
 have f:=aHU cxR (by decide);have c0:([[vi 1,vi 0,vi 3,vi 4]]:List (List PV))[0]?=some [vi 1,vi 0,vi 3,vi 4]:=rfl;refine pF func5 rfl λst=>?_
 repeat' first|apply wZ;rfl|constructor|apply cR pk;(iterate 6 rfl);rotate_left;rfl;intro hw;rfl;(intro hw;apply c0<;>omega);intro _;rfl;rfl|apply a|apply g|apply i|apply j|apply n4|apply c|apply d|apply h4|apply h5|apply e|apply f|apply wY;rfl
end
section
attribute [local irreducible] Ev PWp
theorem aMG(w:Wr)(s:Sc)(b:Bs):qf 7 [.agg (scC s), .agg (bsC b), .seq [], .agg w.who.z, .seq (w.knew.map I1)] (axU ([],0)):=by
 refine pF func7 rfl λst=>?_
 repeat' first|exact Cn.any ⟨_,_,_,rfl,aCE _,zsr _,rfl,rfl⟩|apply wZ;rfl|constructor
theorem aLu{n:Nat}{w:Wr}{s:Sc}{b:Bs}{l:List Ot}(c:ScK s)(d:OpW n b)(hn:n+l.length<=20)(hk:w.knew.length<1000000000000)(hf:∀o∈l,oC o)(hl:l.length≠0)(h0:(jV w s b l).2≠0):qf 7 [.agg (scC s), .agg (bsC b), .seq (l.map Ot.z), .agg w.who.z, .seq (w.knew.map I1)] (axU ([],(jV w s b l).2)):=by
 have a:=alE c d hn hk hf;generalize jV w s b l=R at*;obtain⟨B,e⟩:=R;unfold jA at a;dsimp only at a h0⊢;refine pF func7 rfl λst=>?_
 repeat' first|exact Cn.any ⟨_,_,_,rfl,aCE _,zsr _,rfl,rfl⟩|apply wZ;rfl|show Cn _;constructor|apply a|apply wY;rfl|omega|simp only[zql];omega|intro h;simp at h|intro h
theorem aKN(a:ScK s)(c:OpW n b)(hn:n+l.length<=20)(hk:w.knew.length<1000000000000)(hf:∀o∈l,oC o):∃(A:List Rg) (e:Int),A.length<=100000000/\qf 6 [.agg (scC s), .agg (bsC b), .seq (l.map Ot.z), .agg w.who.z, .seq (w.knew.map I1)] (axU (A,e))/\qf 7 [.agg (scC s), .agg (bsC b), .seq (l.map Ot.z), .agg w.who.z, .seq (w.knew.map I1)] (axU (A,e)):=by
 by_cases hl:l.length=0
 ·obtain rfl:=List.eq_nil_of_length_eq_zero hl
  have q:=aLl w s b;exact⟨[],0,by simp,q,aMG w s b⟩
 by_cases h0:(jV w s b l).2≠0
 ·have q:=aLg a c hn hk hf hl h0
  rw[show ofP w s b l=([],(jV w s b l).2)from by unfold ofP;grind]at q;exact⟨[],_,by simp,q,aLu a c hn hk hf hl h0⟩
 ·have h0:=zdn h0
  exact⟨(ofP w s b l).1,0,aAA a c hn hf,aLb a c hn hk hf hl h0,aM3 a c hn hk hf hl h0⟩
section
variable(hA:qf 5 [] (vb (true)))
include hA
theorem arD(s:Sc)(b:Bs)(l:List Ot)(who:T.Sp)(kn:List Int)(hs:ScG s)(hb:BsB b)(hl:l.length<200000000000000)(g:∀o∈l,o.r.length<200000000000000)(v:kn.length<200000000000000):qf 3 [.agg (scC s), .agg (bsC b), .seq (l.map Ot.z), .agg who.z, .seq (kn.map I1)] (vb true):=by
 have hf:=aBi s b l kn hs hb hl g;by_cases h:¬((fewC s b=true/\((l.length:Int)<=12/\l.all jO=true))/\(kn.length:Int)<=80);have e:((fewC s b&&(decide ((l.length:Int)<=12)&&l.all jO))&&decide ((kn.length:Int)<=80))=false:=by
  rw[<-znt];simp only[zba,zde];exact h
 rw[e]at hf;rotate_left;obtain⟨⟨i,j,a⟩,m⟩:=zdn h;rw[i,a,zdt j,zdt m]at hf;rw[zal]at a;have⟨r,u⟩:=ScK.of i hs.b hs.k;have f:∀o∈l,oC o:=λo ho=>aaV.1 (a o ho);have⟨A,e,q,c,d⟩:=aKN (w:=⟨who,kn⟩) r u (l:=l) (by omega) (by dsimp only;omega) f;have p:=aHU A (by omega);unfold axU at c d;dsimp only at c d
 all_goals (refine pF func3 rfl λst=>?_;repeat'(first|apply wZ;rfl|constructor|(first|apply hA|apply hf|apply c|apply d|apply p)|show(_:PV)=_;simp;done;done|apply wY;rfl))
end
end
end Go.Proofs.YtigmnfepdlbcpaaGreatDoor
