import Derived.Test.YtloecjjehapblaaGreatDoorOpAw
import Derived.Test.YtloecjjehapblaaGreatDoorOpAl
set_option linter.unusedSimpArgs false
set_option linter.unusedVariables false
namespace Go.Proofs.YtloecjjehapblaaGreatDoor
open Go Go.Abs
attribute [local irreducible] Ev PWp
set_option maxRecDepth 10000
set_option maxHeartbeats 4000000
theorem aDl (s:Sc) (hl:s.length<1000000000000) (st:aJ):PC Tryz.prog 27 [.agg (scC s)] st λr S=>∃id,r= .agg [.vec id 1 0 s.length]/\st id=none/\S=upd st id (some (.arr 86 ((List.replicate s.length ()).map zM))):=by
 refine bZ aF Tryz.func27 (by kernel_rfl) rfl rfl rfl rfl ?_
 (try apply wO pk;rfl);(repeat' first|show All _;constructor|apply wE pk;rfl;rfl|(try refine aC ?_);((refine ⟨_,_,_,rfl,zwr _,zsr _, ?_⟩;(exact ⟨id,rfl,hid,rfl⟩);done))|(apply aGk pk () (f:=zM) (n:=s.length) (B:=24);(iterate 11 rfl);(focus (simp;done));(focus (simp;done));exact afD;omega;omega;intro id hid))
def jN (n k:Nat) (f:Nat->List Ln):List (List PV):=(List.range n).map λj=>if j<k then [.seq ((f j).map Ln.cells)] else [.val (.slice none 0 0)]
theorem apJ (n:Nat) (f:Nat->List Ln):jN n 0 f=(List.replicate n ()).map zM:=by
 refine List.ext_getElem (by simp [jN]) λj h1 h2=> ?_
 simp [jN,zM]
theorem axG {n k:Nat} (h:k<n) (f:Nat->List Ln):(jN n k f)[k]?=some [.val (.slice none 0 0)]:=by simp [jN,h]
theorem auU {n k:Nat} (f:Nat->List Ln):(jN n k f).set k [.seq ((f k).map Ln.cells)]=jN n (k+1) f:=by
 refine List.ext_getElem (by simp [jN]) λj h1 h2=> ?_
 rw [List.getElem_set]
 simp only [jN,List.getElem_map,List.getElem_range]
 by_cases e:k=j
 ·subst e;rw [if_pos rfl,if_pos (Nat.lt_succ_self _)]
 ·rw [if_neg e]
  by_cases h:j<k
  ·rw [if_pos h,if_pos (by omega)]
  ·rw [if_neg h,if_neg (by omega)]
theorem awC (n:Nat) (f:Nat->List Ln):jN n n f=((List.range n).map λj=>(⟨f j⟩:Da)).map Da.cells:=by
 unfold jN
 rw [List.map_map]
 refine List.map_congr_left λj hj=> ?_
 rw [if_pos (List.mem_range.1 hj)];rfl
theorem auZ (n k:Nat) (f:Nat->List Ln):(jN n k f).length=n:=by simp [jN]
section
variable {st:aJ} {idT idL id':Nat}
theorem axM {x a o:Option AObj} (h:idL≠idT):StSub (upd (upd st idL a) idT o) (upd (upd (upd st idT x) idL a) idT o):=eY (by rw [eV (Ne.symm h),fF])
theorem apN {a b b' o o1 o2:Option AObj} (h:st idL=none) (h1:idL≠idT) (eb:b'=b) (eo:o2=o1):StSub (upd (upd st id' b') idT o2) (upd (upd (upd (upd (upd st idL a) idT o) idL none) id' b) idT o1):=λj=>by
 subst eb;subst eo
 by_cases e1:j=idT
 ·subst e1;right;rw [aB,aB]
 ·rw [aD e1,aD e1]
  by_cases e2:j=id'
  ·subst e2;right;rw [aB,aB]
  ·rw [aD e2,aD e2]
   by_cases e3:j=idL
   ·subst e3;left;exact h
   ·right;rw [aD e3,aD e1,aD e3]
theorem atH {a o o1 o2:Option AObj} (h:st idL=none) (h1:idL≠idT) (eo:o2=o1):StSub (upd st idT o2) (upd (upd (upd (upd st idL a) idT o) idL none) idT o1):=λj=>by
 subst eo
 by_cases e1:j=idT
 ·subst e1;right;rw [aB,aB]
 ·rw [aD e1,aD e1]
  by_cases e3:j=idL
  ·subst e3;left;exact h
  ·right;rw [aD e3,aD e1,aD e3]
theorem anK {a o:Option AObj} (h:st idL=none) (h1:st idT=none):StSub st (upd (upd st idL a) idT o):=λj=>by
 cases hj:st j with
 |none=>exact .inl rfl
 |some x=>
  right
  rw [aD (λe=>by subst e;rw [h1] at hj;cases hj),aD (λe=>by subst e;rw [h] at hj;cases hj),hj]
theorem rV {a o:AObj} (h:upd (upd st idL (some a)) idT (some o) id'=none):idT≠id'/\st id'=none:=by
 by_cases e:id'=idT
 ·rw [e,aB] at h;cases h
 ·rw [aD e] at h
  refine ⟨Ne.symm e, ?_⟩
  by_cases e2:id'=idL
  ·rw [e2,aB] at h;cases h
  ·rwa [aD e2] at h
end
def nT (s:Sc) (b:Bs) (G:R2->Bool) (who:Dt) (k y:Nat):List Ln:=((b[k]!.lines.take y).filter λl=> !G ((k:Int),l.key)).map (kT s[k]! G who)
def qA (s:Sc) (b:Bs) (G:R2->Bool) (who:Dt) (k:Nat):List Ln:=(b[k]!.lines.filter λl=> !G ((k:Int),l.key)).map (kT s[k]! G who)
def xP (s:Sc) (b:Bs) (G:R2->Bool) (who:Dt):Bs:=(List.range b.length).map λk=>⟨qA s b G who k⟩
def zI (t:Tb) (G:R2->Bool) (k:Nat) (l:Ln):Bool:=G ((k:Int),l.key)||tH t G l
def aiJ (s:Sc) (b:Bs) (G:R2->Bool):Bool:=(List.range b.length).all λk=>b[k]!.lines.all (zI s[k]! G k)
theorem aDr {s:Sc} {b:Bs} {G:R2->Bool} {who:Dt} {k y:Nat} (h:y<b[k]!.lines.length):nT s b G who k (y+1)=if G ((k:Int),b[k]!.lines[y].key)=true then nT s b G who k y else nT s b G who k y++[kT s[k]! G who b[k]!.lines[y]]:=by
 unfold nT
 rw [List.take_succ_eq_append_getElem h,List.filter_append,List.map_append,aaG]
 cases hg:G ((k:Int),b[k]!.lines[y].key)<;>simp
theorem azM {s:Sc} {b:Bs} {G:R2->Bool} {who:Dt} {k:Nat}:nT s b G who k b[k]!.lines.length=qA s b G who k:=by unfold nT qA;rw [List.take_length]
theorem aA0 (s:Sc) (b:Bs) (G:R2->Bool) (who:Dt) (k y:Nat):(nT s b G who k y).length<=b[k]!.lines.length:=by
 unfold nT
 rw [zql]
 exact Nat.le_trans (List.length_filter_le ..) (by rw [zlt];omega)
theorem aCd {s:Sc} {b:Bs} {G:R2->Bool} {k y:Nat} (hk:k<b.length) (hy:y<b[k].lines.length) (h:zI s[k]! G k b[k].lines[y]=false):aiJ s b G=false:=by
 unfold aiJ
 rw [<-Bool.not_eq_true,zal]
 intro q
 have:=q k (List.mem_range.2 hk)
 rw [getElem!_pos b k hk] at this
 have:=zal.1 this _ (zgm hy)
 rw [h] at this;cases this
structure FolD (s:Sc) (b:Bs):Prop extends Fol s b where
 ln:∀k (h:k<b.length),b[k].lines.length<=100000
 cl:∀k (h:k<b.length),∀l∈b[k].lines,l.cells_.length<100000000000/\l.by_.length<100000000000
 cols:∀k (h:k<s.length),∀i j (hi:i<s[k].foreign.length) (hj:j<s[k].foreign.length),s[k].foreign[i].col=s[k].foreign[j].col->i=j
def aFO (s:Sc) (b:Bs) (who:Dt) (M:List R2) (st:aJ) (r:PV) (S:aJ):Prop:=
 (aiJ s b (inR M)=false/\r= .tup [.agg [.val (.slice none 0 0)],(PV.val (Value.int .i64 (10)))]/\StSub st S)\/(aiJ s b (inR M)=true/\∃id,r= .tup [.agg [.vec id 1 0 b.length],(PV.val (Value.int .i64 (0)))]/\S id=some (.arr 86 ((xP s b (inR M) who).map Da.cells))/\StSub st (upd S id none))
theorem aEc {s:Sc} {b:Bs} (hFo:FolD s b) (hr:PF Tryz.prog 19 [.agg (scC s), .agg (bsC b)] (PV.val (Value.bool (true)))) (z:R2) (who:Dt) (hz:acK b z=true) (st:aJ):PC Tryz.prog 156 [.agg (scC s), .agg (bsC b),(PV.val (Value.int .i64 (z.1))),(PV.val (Value.int .i64 (z.2))), .agg who.cells] st (aFO s b who (sX s b z) st):=by
 have hk:=ahL hFo.toFol (λd hd=>by obtain ⟨k,hk,rfl⟩:=List.getElem_of_mem hd;have:=hFo.ln k hk;omega) z
 unfold aDx at hk
 have hM0:0<(sX s b z).length:=by
  unfold sX
  rw [if_pos hz]
  exact List.length_pos_of_mem ((amD hFo.len (akH.1 hz)).me z rfl)
 obtain ⟨⟨hlen,s16,f16,hreg,hlns⟩,ln,hcl,hcols⟩:=hFo
 have hnew:=aDl s (by omega)
 generalize sX s b z=M at*
 refine bZ aF Tryz.func156 (by kernel_rfl) rfl rfl rfl rfl ?_
 have hlm:aY mQ bF (mE M)≠[]:=λe=>by
  have:=congrArg List.length e
  unfold aY mE at this
  rw [zql,zql] at this
  simp only [List.length_nil] at this;omega
 have hI:∀k y,(nT s b (inR M) who k y).length<=b[k]!.lines.length:=λk y=>aA0 s b (inR M) who k y
 focus ((try apply wO pk;rfl);(repeat' first|apply lnF pk;rfl;rfl;rfl;rotate_left;rfl;rfl|show All _;constructor|show Imp _ _;constructor|apply wC pk;rfl;rfl|apply wE pk;rfl;rfl|refine aA rfl ?_ ?_<;>intro h<;>(try simp at h)<;>try omega|(try refine aC ?_);(refine ⟨_,_,_,rfl,zwr _,zsr _, ?_⟩)|(apply aH;rfl;rfl;rfl;(intro _;(first|apply hr|apply hk)<;>first|assumption|omega);rotate_left;rfl;rfl)|(apply cB;rfl;rfl;(apply (hnew st)<;>first|exact aB _ _ _|assumption|omega|(fail));rfl;rfl;rfl;intro _ st' hR;obtain ⟨idT,rfl,hidT,rfl⟩:=hR)|((exfalso;first|exact hlm h|fail))))
 have hidT0:st idT=none:=hidT
 have hsub:StSub (upd st idT (some (.arr 86 (jN b.length 0 (qA s b (inR M) who))))) (upd st idT (some (.arr 86 ((List.replicate s.length ()).map zM)))):=by rw [apJ,hlen];exact zsr _
 refine aK (X:={x:Nat//x<=b.length/\∀k (h:k<b.length),k<x->∀y (h:y<b[k].lines.length),zI s[k]! (inR M) k b[k].lines[y]=true}) (λi=>(((((((((St.nil 89 (upd st idT (some (.arr 86 (jN b.length i.1 (qA s b (inR M) who)))))).var 5 24 ((scC s))).var 9 59 (who.cells)).var 10 27 ([.val (.slice none 0 0)])).pv 12 (.fmap (aY mQ bF (mE M)))).var 13 27 ([.vec idT 1 0 s.length])).pv 37 (.seq (b.map Da.cells))).pv 38 ((PV.val (Value.int .i64 (((b.map Da.cells).length:Nat)))))).pv 39 ((PV.val (Value.int .i64 ((i.1:Nat))))))) (λi=>b.length-i.1) ⟨0,by omega,by simp⟩ ?_ (λi=> ?_)
 ·(repeat (first|refine Sub.pv ?_ rfl|refine Sub.var ?_ rfl rfl));exact Sub.nil _ _ _ hsub rfl
 obtain ⟨i,hi,hIv⟩:=i
 dsimp only
 by_cases hend:b.length<=i
 ·obtain rfl:i=b.length:=by omega
  have hmay:aiJ s b (inR M)=true:=by
   unfold aiJ
   rw [zal]
   intro k hk
   have hk:=List.mem_range.1 hk
   rw [getElem!_pos b k hk,zal]
   intro l hl
   obtain ⟨y,hy,rfl⟩:=List.getElem_of_mem hl
   exact hIv k hk hk y hy
  rw [awC]
  (try apply wO pk;rfl);(repeat' first|show All _;constructor|apply wC pk;rfl;rfl|refine aA rfl ?_ ?_<;>intro h<;>(try simp at h)<;>try omega|(try refine aC ?_);((refine ⟨_,_,_,rfl,zwr _,zsr _, ?_⟩;(exact .inr ⟨hmay,idT,by rw [hlen],aB _ _ _,cX hidT0⟩);done)))
 have hib:i<b.length:=by omega
 have his:i<s.length:=by omega
 have hrow:=axG hib (qA s b (inR M) who)
 have hset:=auU (n:=b.length) (k:=i) (qA s b (inR M) who)
 have hrl:=auZ b.length i (qA s b (inR M) who)
 have hIu:=λy h=>aDr (s:=s) (b:=b) (G:=inR M) (who:=who) (k:=i) (y:=y) h
 have hIa:=azM (s:=s) (b:=b) (G:=inR M) (who:=who) (k:=i)
 have hI0:nT s b (inR M) who i 0=[]:=by simp [nT]
 have hIl:=hI i
 have hreg:=hreg i his
 have hln:=ln i hib
 have hcl:=hcl i hib
 have hcol:=hcols i his
 have hf16:=f16 i his
 simp only [getElem!_pos b i hib,getElem!_pos s i his] at hIu hIa hIl hreg
 generalize jN b.length i (qA s b (inR M) who)=R at*
 focus ((try apply wO pk;rfl);(repeat' first|show All _;constructor|show Imp _ _;constructor|apply wC pk;rfl;rfl|apply wE pk;rfl;rfl|refine aA rfl ?_ ?_<;>intro h<;>(try simp at h)<;>try omega|apply aN pk;(iterate 6 rfl);rotate_left;rfl;(intro hw;rfl);(intro hw;apply aI<;>omega);(intro _;rfl);rfl|intros;(try simp only [zql]);omega))
 refine akV (id:=idT) (k:=i) 67 3 (aB _ _ _) hrow rfl (λidL hidL=> ?_)
 have hidL1:upd st idT (some (.arr 86 R)) idL=none:=hidL
 have hne:idL≠idT:=λe=>by rw [e,aB] at hidL1;cases hidL1
 have hidL0:st idL=none:=by rwa [aD hne] at hidL1
 clear hidL hidL1
 have hsub2:StSub (upd (upd st idL (some (.arr 67 ((nT s b (inR M) who i 0).map Ln.cells)))) idT (some (.arr 86 (R.set i [.vec idL 3 0 (nT s b (inR M) who i 0).length])))) (upd (upd (upd st idT (some (.arr 86 R))) idL (some (.arr 67 []))) idT (some (.arr 86 (R.set i [.vec idL 3 0 0])))):=by rw [hI0];exact axM hne
 refine aK (X:={x:Nat×Nat//x.1<=b[i].lines.length/\st x.2=none/\x.2≠idT/\∀y (h:y<b[i].lines.length),y<x.1->zI s[i] (inR M) i b[i].lines[y]=true}) (λy=>(((((((((((((St.nil 89 (upd (upd st y.1.2 (some (.arr 67 ((nT s b (inR M) who i y.1.1).map Ln.cells)))) idT (some (.arr 86 (R.set i [.vec y.1.2 3 0 (nT s b (inR M) who i y.1.1).length]))))).var 5 24 ((scC s))).var 9 59 (who.cells)).var 10 27 ([.val (.slice none 0 0)])).pv 12 (.fmap (aY mQ bF (mE M)))).var 13 27 ([.vec idT 1 0 s.length])).pv 14 ((PV.val (Value.int .i64 ((i:Nat)))))).pv 37 (.seq (b.map Da.cells))).pv 38 ((PV.val (Value.int .i64 (((b.map Da.cells).length:Nat)))))).pv 39 ((PV.val (Value.int .i64 ((i:Nat)))))).pv 45 (.seq (b[i].lines.map Ln.cells))).pv 46 ((PV.val (Value.int .i64 (((b[i].lines.map Ln.cells).length:Nat)))))).pv 47 ((PV.val (Value.int .i64 ((y.1.1:Nat))))))) (λy=>b[i].lines.length-y.1.1) ⟨(0,idL),by simp,hidL0,hne,by simp⟩ ?_ (λy=> ?_)
 ·dsimp only
  (repeat (first|refine Sub.pv ?_ rfl|refine Sub.var ?_ rfl rfl));exact Sub.nil _ _ _ hsub2 rfl
 clear hidL0 hne hsub2 hsub
 obtain ⟨⟨y,idL⟩,hy,hidL0,hne,hyI⟩:=y
 dsimp only at hy hidL0 hne hyI
 dsimp only
 have hneT:=Ne.symm hne
 have hgr:(R.set i [.vec idL 3 0 (nT s b (inR M) who i y).length])[i]?=some [.vec idL 3 0 (nT s b (inR M) who i y).length]:=List.getElem?_set_self (by omega)
 have hIy:=hIl y
 by_cases hend2:b[i].lines.length<=y
 ·obtain rfl:y=b[i].lines.length:=by omega
  rw [hIa] at hgr⊢
  have hup:∀k (h:k<b.length),k<i+1->∀y (h:y<b[k].lines.length),zI s[k]! (inR M) k b[k].lines[y]=true:=λk hk hki v hv=>by
   rcases Nat.lt_succ_iff_lt_or_eq.1 hki with q|q
   ·exact hIv k hk q v hv
   ·subst q;rw [getElem!_pos s k his];exact hyI v hv hv
  refine anX (id:=idT) (idL:=idL) (k:=i) (aB _ _ _) hgr ((aD hne).trans (aB _ _ _)) qE (zql _) hneT ?_
  rw [List.set_set,hset]
  (try apply wO pk;rfl);(repeat' first|show All _;constructor|apply wC pk;rfl;rfl|refine aA rfl ?_ ?_<;>intro h<;>(try simp at h)<;>try omega|(refine ⟨⟨i+1,by omega,hup⟩, ?_,by simp only;omega⟩;(((repeat (first|refine Sub.pv ?_ rfl|refine Sub.var ?_ rfl rfl));(exact Sub.nil _ _ _ (atH hidL0 hne rfl) rfl))))|intros;(try simp only [zql]);omega)
 have hyl:y<b[i].lines.length:=by omega
 obtain ⟨l,hle⟩:∃l,b[i].lines[y]=l:=⟨_,rfl⟩
 have hlm:l∈b[i].lines:=hle▸zgm hyl
 have hgl:(b[i].lines.map Ln.cells)[y]?=some l.cells:=by rw [List.getElem?_map,List.getElem?_eq_getElem hyl,hle];rfl
 have hIu:=hIu y hyl
 rw [hle] at hIu
 have hyU:zI s[i] (inR M) i l=true->∀v (h:v<b[i].lines.length),v<y+1->zI s[i] (inR M) i b[i].lines[v]=true:=λh v hv hvy=>by
  rcases Nat.lt_succ_iff_lt_or_eq.1 hvy with q|q
  ·exact hyI v hv q
  ·subst q;rw [hle];exact h
 have hbad:zI s[i] (inR M) i l=false->aiJ s b (inR M)=false:=λh=>aCd hib hyl (by rw [getElem!_pos s i his,hle];exact h)
 have hleft:=avA s[i] l M who (by omega) (by have:=(hcl l hlm).1;omega) (hcl l hlm).2 (λf hf=>hreg f hf l hlm) hcol
 unfold azC at hleft
 cases hG:inR M ((i:Int),l.key) with
 |true=>
  rw [hG,if_pos rfl] at hIu
  have hU:=hyU (by unfold zI;rw [hG];rfl)
  (try apply wO pk;rfl);(repeat' first|apply lkS (M:=M) (k:=((i:Int),l.key));(iterate 5 rfl);rotate_left;rfl;rfl;rw [hG]|show All _;constructor|show Imp _ _;constructor|apply wC pk;rfl;rfl|apply wE pk;rfl;rfl|refine aA rfl ?_ ?_<;>intro h<;>(try simp at h)<;>try omega|apply aN pk;(iterate 6 rfl);rotate_left;rfl;(((intro hw;rfl);(intro hw;apply hgl<;>omega);(intro _;rfl)));rfl|(refine ⟨⟨(y+1,idL),by simp only;omega,hidL0,hne,hU⟩, ?_,by simp only;omega⟩;((dsimp only;rw [hIu]));(((repeat (first|refine Sub.pv ?_ rfl|refine Sub.var ?_ rfl rfl));(exact Sub.nil _ _ _ (zsr _) rfl))))|intros;(try simp only [zql]);omega)
 |false=>
  rw [hG,if_neg (by simp)] at hIu
  cases hL:tH s[i] (inR M) l with
  |false=>
   rw [hL,if_neg (by simp)] at hleft
   have hb:=hbad (by unfold zI;rw [hG,hL];rfl)
   (try apply wO pk;rfl);(repeat' first|apply lkS (M:=M) (k:=((i:Int),l.key));(iterate 5 rfl);rotate_left;rfl;rfl;rw [hG]|apply wD pk [] [];kernel_rfl;rfl;rfl|show All _;constructor|show Imp _ _;constructor|apply wC pk;rfl;rfl|apply wE pk;rfl;rfl|refine aA rfl ?_ ?_<;>intro h<;>(try simp at h)<;>try omega|(try refine aC ?_);((refine ⟨_,_,_,rfl,zwr _,zsr _, ?_⟩;(exact .inl ⟨hb,rfl,anK hidL0 hidT0⟩);done))|(apply aH;rfl;rfl;rfl;(intro _;apply hleft<;>first|assumption|omega);rotate_left;rfl;rfl)|apply aN pk;(iterate 6 rfl);rotate_left;rfl;(first|(intro hw;rfl);(intro hw;apply hgl<;>omega);(intro _;rfl)|(intro hw;rfl);(intro hw;apply aI<;>omega);(intro _;rfl));rfl)
  |true=>
   rw [hL,if_pos rfl] at hleft
   have hU:=hyU (by unfold zI;rw [hG,hL];rfl)
   have hlenU:(nT s b (inR M) who i (y+1)).length=(nT s b (inR M) who i y).length+1:=by rw [hIu,zla];rfl
   (try apply wO pk;rfl);(repeat' first|apply wD (id:=17) pk [11,14] [8];kernel_rfl;rfl;rfl|apply wD (id:=14) pk [] [];kernel_rfl;rfl;rfl|apply lkS (M:=M) (k:=((i:Int),l.key));(iterate 5 rfl);rotate_left;rfl;rfl;rw [hG]|show All _;constructor|show Imp _ _;constructor|apply wC pk;rfl;rfl|apply wE pk;rfl;rfl|refine aA rfl ?_ ?_<;>intro h<;>(try simp at h)<;>try omega|(apply aH;rfl;rfl;rfl;(intro _;apply hleft<;>first|assumption|omega);rotate_left;rfl;rfl)|apply aN pk;(iterate 6 rfl);rotate_left;rfl;(first|(intro hw;rfl);(intro hw;apply hgl<;>omega);(intro _;rfl)|(intro hw;rfl);(intro hw;apply aI<;>omega);(intro _;rfl));rfl|(apply apV pk (f:=Ln.cells) [kT s[i] (inR M) who l] 56;(iterate 9 rfl);((focus ((repeat (first|exact aB _ _ _|refine (aD ‹_›).trans ?_));done)));(omega);exact λ_=>rfl;exact λ_=>rfl;exact afG;((focus (simp;omega)));((focus (simp;omega)));rfl;intro id' hid')|apply ixA pk;(iterate 5 rfl);rotate_left;rfl;(intro hw;(exact (show _=((i:Nat):Int) from by omega)));(intro hw;(omega));rfl;(exact Nat.zero_add _)|apply ldX pk;rfl;rfl;rotate_left;rfl;exact aB _ _ _;rfl;exact hgr;rfl;rfl|have hq:=rV hid';apply stX pk;rfl;rfl;exact (aD hq.1).trans ((aD hneT).trans (aB _ _ _));rfl;exact hgr;rfl;rfl|(refine ⟨⟨(y+1,id'),by simp only;omega,(rV hid').2,Ne.symm (rV hid').1,hU⟩, ?_,by simp only;omega⟩;((dsimp only));(((repeat (first|refine Sub.pv ?_ rfl|refine Sub.var ?_ rfl rfl));(exact Sub.nil _ _ _ (apN hidL0 hne (by rw [hIu]) (by rw [List.set_set,hlenU];rfl)) rfl))))|intros;(try simp only [zql]);omega)
end Go.Proofs.YtloecjjehapblaaGreatDoor
namespace Go.Proofs.YtloecjjehapblaaGreatDoor
open Go Go.Abs
attribute [local irreducible] Ev PWp
set_option maxRecDepth 10000
set_option maxHeartbeats 4000000
def uU (rb:Bool) (s:Sc) (b:Bs) (z:R2) (who:Dt) (M:List R2):Bs×Int:=if rb=true then (if acK b z=true then (if aiJ s b (inR M)=true then (xP s b (inR M) who,0) else ([],10)) else ([],4)) else ([],1)
def oD (o:Bs×Int):PV:= .tup [.agg (bsC o.1),(PV.val (Value.int .i64 (o.2)))]
theorem nK (e:Int):Wk (.tup [.agg [.val (.slice none 0 0)],(PV.val (Value.int .i64 (e)))]) (oD ([],e)):=Wk.tup (.cons (.agg (.cons Wk.nil .nil)) (.cons (zwr _) .nil))
theorem aCB {f:FuncId} {args:List PV} {s:Sc} {b:Bs} {z:R2} {who:Dt} {M:List R2} {st:aJ} (hz:acK b z=true) (h:PC Tryz.prog f args st (aFO s b who M st)):PC Tryz.prog f args st λr S=>r=oD (uU true s b z who M)/\S=st:=
 gL (sz:=1) h λp st' h=>by
  unfold uU
  rw [if_pos rfl,if_pos hz]
  rcases h with ⟨h1,rfl,h2⟩|⟨h1,id,rfl,h2,h3⟩
  ·rw [if_neg (by rw [h1];simp)]
   exact .inr ⟨_,_,nK 10,h2,rfl,rfl⟩
  ·rw [if_pos h1]
   exact .inl ⟨id,86,(xP s b (inR M) who).map Da.cells,_,st,h2,afL, .tup (.cons (.agg (.cons (gJ (by simp [xP])) .nil)) (.cons .refl .nil)),h3,rfl,rfl⟩
theorem aEV {b:Bs} (h:∀k (h:k<b.length),b[k].lines.length<=100000):∀d∈b,d.lines.length<100000000000:=λd hd=>by obtain ⟨k,hk,rfl⟩:=List.getElem_of_mem hd;have:=h k hk;omega
theorem aAH {s:Sc} {b:Bs} {rb:Bool} (hr:PF Tryz.prog 19 [.agg (scC s), .agg (bsC b)] (PV.val (Value.bool (rb)))) (hF:rb=true->FolD s b) (z:R2) (who:Dt):PF Tryz.prog 156 [.agg (scC s), .agg (bsC b),(PV.val (Value.int .i64 (z.1))),(PV.val (Value.int .i64 (z.2))), .agg who.cells] (oD (uU rb s b z who (sX s b z))):=by
 cases rb with
 |false=>
  refine aG aF Tryz.func156 (by kernel_rfl) rfl rfl rfl rfl (λst=> ?_)
  (try apply wO pk;rfl);(repeat' first|refine aC ?_;exact ⟨_,_,_,rfl,nK 1,zsr _,rfl,rfl⟩|show All _;constructor|show Imp _ _;constructor|apply wC pk;rfl;rfl|apply wE pk;rfl;rfl|refine aA rfl ?_ ?_<;>intro h<;>(try simp at h)<;>try omega|(apply aH;rfl;rfl;rfl;(intro _;apply hr<;>first|assumption|omega);rotate_left;rfl;rfl))
 |true=>
  have hFo:=hF rfl
  by_cases hz:acK b z=true
  ·exact λst=>aCB hz (aEc hFo hr z who hz st)
  ·have hk:=ahL hFo.toFol (aEV hFo.ln) z
   unfold aDx at hk
   have hM:sX s b z=[]:=by unfold sX;rw [if_neg hz]
   unfold uU
   rw [if_pos rfl,if_neg hz]
   rw [hM] at hk
   refine aG aF Tryz.func156 (by kernel_rfl) rfl rfl rfl rfl (λst=> ?_)
   (try apply wO pk;rfl);(repeat' first|apply lnF pk;rfl;rfl;rfl;rotate_left;rfl;rfl|refine aC ?_;exact ⟨_,_,_,rfl,nK 4,zsr _,rfl,rfl⟩|show All _;constructor|show Imp _ _;constructor|apply wC pk;rfl;rfl|apply wE pk;rfl;rfl|refine aA rfl ?_ ?_<;>intro h<;>(try simp at h)<;>try omega|(apply aH;rfl;rfl;rfl;(intro _;(first|apply hr|apply hk)<;>first|assumption|omega);rotate_left;rfl;rfl)|((exfalso;simp [aY,mE] at*;done)))
end Go.Proofs.YtloecjjehapblaaGreatDoor
namespace Go.Proofs.YtloecjjehapblaaGreatDoor
open Go Go.Abs
attribute [local irreducible] Ev PWp
set_option maxRecDepth 10000
set_option maxHeartbeats 4000000
variable {tx:Cl->Int}
theorem aAT {s:Sc} {b:Bs} (h:cP tx s b=true) {k:Nat} (hk:k<s.length) {f:Fr} (hf:f∈s[k].foreign) {l:Ln} (hl:l∈b[k]!.lines):xF l f.col:=λj hj e=>by
 obtain ⟨⟨h1,h2⟩,_⟩:=bV.1 h
 have hkb:k<b.length:=by omega
 rw [getElem!_pos b k hkb] at hl
 have hL:=vS h hkb hl
 have hfo:=aAQ h1 hk hf
 rw [hL.kind j hj,getElem!_pos s k hk]
 have:=hfo.kind
 rwa [show f.col.toNat=j by omega] at this
theorem aE3 {s:Sc} {b:Bs} (h:cP tx s b=true) (hB:BsS 1000 b):Fol s b:=by
 obtain ⟨⟨h1,h2⟩,_⟩:=bV.1 h
 exact ⟨h2,axJ h1,λk hk=>aoS h1 hk,λk hk f hf l hl=>aAT h hk hf hl,λk hk=>by have:=(hB.2 _ (zgm hk)).1;omega⟩
theorem aCH {s:Sc} {b:Bs} (h:cP tx s b=true) (hB:BsS 1000 b):FolD s b:=
 ⟨aE3 h hB,λk hk=>by have:=(hB.2 _ (zgm hk)).1;omega,λk hk l hl=>by have:=(hB.2 _ (zgm hk)).2 l hl;exact ⟨by have:=this.2.1;omega,by have:=this.1;omega⟩,λk hk i j hi hj e=>aE0 (bV.1 h).1.1 hk i j hi hj e⟩
end Go.Proofs.YtloecjjehapblaaGreatDoor
namespace Go.Proofs.YtloecjjehapblaaGreatDoor
open Go Go.Abs
set_option maxRecDepth 10000
set_option maxHeartbeats 4000000
def anA (t:Tb) (G:R2->Bool) (l:Ln) (c:Int):Bool:=t.foreign.any λf=>decide (f.col=c)&&eE G l f
theorem aqA {t:Tb} {G:R2->Bool} {l:Ln} {c:Int}:anA t G l c=true↔∃f∈t.foreign,f.col=c/\eE G l f=true:=by
 unfold anA
 rw [List.any_eq_true]
 simp only [zba,zde]
theorem azY (t:Tb) (G:R2->Bool) (who:Dt) (l:Ln):(kT t G who l).key=l.key:=by unfold kT;split<;>rfl
theorem axE {s:Sc} {b:Bs} {G:R2->Bool} {who:Dt} {k:Nat} (hk:k<b.length):(xP s b G who)[k]!.lines=qA s b G who k:=by
 have h:k<(xP s b G who).length:=by simpa [xP] using hk
 rw [getElem!_pos _ k h]
 simp [xP]
theorem afB (s:Sc) (b:Bs) (G:R2->Bool) (who:Dt):(xP s b G who).length=b.length:=by simp [xP]
theorem aiI {s:Sc} {b:Bs} {G:R2->Bool} {who:Dt} {k:Nat} {x:Ln}:x∈qA s b G who k↔∃l∈b[k]!.lines,G ((k:Int),l.key)=false/\x=kT s[k]! G who l:=by
 unfold qA
 simp only [List.mem_map,List.mem_filter,Bool.not_eq_true']
 exact ⟨λ⟨l,⟨h1,h2⟩,e⟩=>⟨l,h1,h2,e.symm⟩,λ⟨l,h1,h2,e⟩=>⟨l,⟨h1,h2⟩,e.symm⟩⟩
section
variable {s:Sc} {b:Bs} {G:R2->Bool} {who:Dt}
end
end Go.Proofs.YtloecjjehapblaaGreatDoor
