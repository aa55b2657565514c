import Derived.Test.YtppdefkgmegipaaGreatDoorClAu
import Derived.Test.YtppdefkgmegipaaGreatDoorClAe
set_option linter.unusedSimpArgs false
set_option linter.unusedVariables false
namespace Go.Proofs.YtppdefkgmegipaaGreatDoor
open Go Go.Abs
section
set_option maxRecDepth 10000
set_option maxHeartbeats 4000000
theorem aaM {s:Sc} {q:Qu} (h:fB s q=0):(dC s q).2=0:=by
 unfold fB at h
 split at h
 ·rename_i w;exact absurd h w
 ·rename_i w;exact zdn w
theorem akC {s:Sc} {b:Bs} (hB:dE T.rightP s b=true):∀t∈s,t.cols.length<=1000:=λt ht=>by
 obtain ⟨k,hk,rfl⟩:=zgo ht
 have:=(aAP (jW.1 hB).1.1 hk).1
 omega
theorem pY {s:Sc} {b:Bs} {q:Qu} (hr:PF Tryz.prog 44 [.agg (scC s), .agg (bsC b)] (vb (dE T.rightP s b))) (hq:QuS q) (hg:nD q=false) (hS:BsS 100 b) (hL:iY b q=true):AnsH s b q.all:=
 ⟨hr,λh=>akC h,⟨hq.joins,hq.wl,hq.gl,hq.ol,hq.rl,hq.wok,hq.ook,hq.rng⟩,hg,(show (-1:Int)<0 by decide),λhB h0=>azH (q:=q.all) hS hB (aaM h0) hL (akC hB)⟩
theorem rU (f:Ln->Bool) (l:List Ln):(eF f l).Sublist l:=List.filter_sublist
theorem apM {g:Nat->Ln->Bool} {b:Bs} {d:Da} (h:d∈cO g b):∃e∈b,d.lines.Sublist e.lines:=by
 obtain ⟨i,hi,rfl⟩:=zgo h
 rw [dI] at hi
 rw [mU g b hi]
 exact ⟨_,zgm hi,rU _ _⟩
theorem uB {g:Nat->Ln->Bool} {b:Bs} (h:BsS 100 b):BsS 100 (cO g b):=
 ⟨by rw [dI];exact h.1,λd hd=>by
  obtain ⟨e,he,hs⟩:=apM hd
  obtain ⟨h1,h2⟩:=h.2 e he
  exact ⟨Nat.le_trans hs.length_le h1,λl hl=>h2 l (hs.subset hl)⟩⟩
theorem sU (g:Nat->Ln->Bool) (b:Bs) (k:Int):(aU (cO g b) k).Sublist (aU b k):=by
 unfold aU
 have e:okT (cO g b) k=okT b k:=by unfold okT;rw [dI]
 rw [e]
 split
 ·rename_i w
  simp only [okT,zba,zde] at w
  have h:k.toNat<b.length:=by omega
  rw [getElem!_pos (cO g b) k.toNat (by rw [dI];exact h),getElem!_pos b k.toNat h,mU g b h]
  exact rU _ _
 ·exact List.Sublist.refl _
theorem ajL {s:Sc} {g:Nat->Ln->Bool} {b:Bs} (h:dE T.rightP s b=true):dE T.rightP s (cO g b)=true:=by
 obtain ⟨⟨h1,h2⟩,h3⟩:=jW.1 h
 refine jW.2 ⟨⟨h1,by rw [dI];exact h2⟩,λk hk=> ?_⟩
 rw [dI] at hk
 have hd:=h3 k hk
 rw [getElem!_pos b k hk] at hd
 rw [getElem!_pos (cO g b) k (by rw [dI];exact hk),mU g b hk]
 obtain ⟨d1,d2,d3⟩:=nL.1 hd
 have hs:=rU (g k) b[k].lines
 exact nL.2 ⟨Nat.le_trans hs.length_le d1,λx hx=>d2 x (hs.subset hx),List.Pairwise.sublist (hs.map _) d3⟩
theorem aeS {b c:Bs} (h:∀k,(aU c k).length<=(aU b k).length):∀{js:List Jn} {m n:Int},0<=m->m<=n->rD b js n<=3000->rD c js m<=3000
 |[],m,n,_,h1,h2=>Int.le_trans h1 h2
 |j::js,m,n,h0,h1,h2=>by
  have hn:=ahR h2
  simp only [rD] at h2⊢
  rw [zp hn] at h2
  rw [zp (by omega)]
  have hk:=h j.table
  exact aeS h (Int.mul_nonneg h0 (by omega)) (Int.le_trans (Int.mul_le_mul_of_nonneg_left (Int.ofNat_le.2 hk) h0) (Int.mul_le_mul_of_nonneg_right h1 (by omega))) h2
theorem sZ {g:Nat->Ln->Bool} {b:Bs} {q:Qu} (h:iY b q=true):iY (cO g b) q=true:=by
 unfold iY at h⊢
 have hk:=λk=>(sU g b k).length_le
 exact decide_eq_true (aeS hk (by omega) (Int.ofNat_le.2 (hk _)) (of_decide_eq_true h))
theorem aiX (b:Bs):cO (mH []) b=b:=by
 refine List.ext_getElem (dI _ _) λi h1 h2=> ?_
 rw [mU _ _ h2]
 have:eF (mH [] i) b[i].lines=b[i].lines:=by
  unfold eF
  rw [List.filter_eq_self]
  intro x _
  rfl
 rw [this]
theorem aAK {α β:Type} (f:α->Option β) {l l':List α} (h:l.Sublist l'):(l.filterMap f).Sublist (l'.filterMap f):=h.filterMap f
theorem aoA {l r:Nat} {xs xs' ys ys':List Wd} (h1:xs'.Sublist xs) (h2:ys'.Sublist ys):(dS l r xs' ys').Sublist (dS l r xs ys):=by
 unfold dS
 induction h1 with
 |slnil=>exact List.Sublist.refl _
 |cons a _ ih=>rw [List.flatMap_cons];exact ih.trans (List.sublist_append_right _ _)
 |cons_cons a _ ih=>rw [List.flatMap_cons,List.flatMap_cons];exact (aAK _ h2).append ih
theorem zX (g:Nat->Ln->Bool) (b:Bs) (k:Nat):(eV (cO g b) k).Sublist (eV b k):=(sU g b k).map _
theorem yP (g:Nat->Ln->Bool) (b:Bs) (q:Qu):∀i≤q.joins.length,(fN (cO g b) q i).Sublist (fN b q i)
 |0,_=>zX g b _
 |i+1,h=>by
  rw [qT (by omega),qT (by omega)]
  exact aoA (yP g b q i (by omega)) (zX g b _)
theorem asP (g:Nat->Ln->Bool) (b:Bs) (q:Qu):(tQ (cO g b) q).Sublist (tQ b q):=(yP g b q _ (Nat.le_refl _)).filter _
def eU (l:List It) (r:List Vl):Int:=((l.find? λx=>decide (x.row=r)).map (·.many)).getD 0
theorem vH {l:List It} {r:List Vl} (h:∀x∈l,x.row≠r):eU l r=0:=by
 unfold eU
 rw [List.find?_eq_none.2 (λx hx=>by simpa using h x hx)];rfl
theorem aqL (l:List It) (x:It) (r:List Vl) (h:∀y∈l,y.row≠x.row):eU (l++[x]) r=eU l r+if x.row=r then x.many else 0:=by
 by_cases e:x.row=r
 ·rw [zp e,vH λy hy w=>h y hy (w.trans e.symm)]
  unfold eU
  rw [List.find?_append,List.find?_eq_none.2 (λy hy=>by simpa using λw=>h y hy (w.trans e.symm))]
  simp [e]
 ·rw [zn e]
  unfold eU
  rw [List.find?_append]
  cases l.find? λx=>decide (x.row=r)<;>simp [e]
theorem aaF :∀(l:List It) (k:Nat) (hk:k<l.length) (x:It) (r:List Vl),x.row=l[k].row->(∀j (h:j<k),l[j].row≠x.row)->eU (l.set k x) r=if x.row=r then x.many else eU l r
 |[],k,hk,_,_,_,_=>by simp at hk
 |y::l,0,_,x,r,h,_=>by
  simp only [List.getElem_cons_zero] at h
  unfold eU
  rw [List.set_cons_zero,List.find?_cons,List.find?_cons]
  by_cases e:x.row=r
  ·rw [zp e];simp [e]
  ·rw [zn e]
   have e2:¬y.row=r:=λw=>e (h.trans w)
   simp [e,e2]
 |y::l,k+1,hk,x,r,h,hn=>by
  have ih:=aaF l k (by simpa using hk) x r (by simpa using h) (λj hj=>by have:=hn (j+1) (by omega);simpa using this)
  have h0:=hn 0 (by omega)
  simp only [List.getElem_cons_zero] at h0
  unfold eU at ih⊢
  rw [List.set_cons_succ,List.find?_cons,List.find?_cons]
  by_cases e:y.row=r
  ·have e2:¬x.row=r:=λw=>h0 (e.trans w.symm)
   rw [zn e2];simp [e]
  ·simp only [e,decide_false];exact ih
theorem amM (l:List It) (x:List Vl) (d:List Dt) (r:List Vl):eU (jM l x d) r=eU l r+if x=r then 1 else 0:=by
 unfold jM
 cases hf:(bW l).findIdx? (λy=>decide (y=x)) with
 |none=>
  dsimp only
  rw [List.findIdx?_eq_none_iff] at hf
  exact aqL l ⟨x,1,jS [] d⟩ r λy hy e=>by
   have:=hf y.row (List.mem_map_of_mem hy)
   simp [e] at this
 |some k=>
  dsimp only
  obtain ⟨h1,h2,h3⟩:=List.findIdx?_eq_some_iff_getElem.1 hf
  have hk:k<l.length:=by unfold bW at h1;simpa using h1
  have h2:l[k].row=x:=by simpa [bW] using h2
  have h3:∀j (h:j<k),l[j].row≠x:=λj hj=>by have:=h3 j hj;simpa [bW] using this
  rw [aaF l k hk ⟨x,l[k]!.many+1,jS l[k]!.by_ d⟩ r h2.symm h3]
  by_cases e:x=r
  ·rw [zp e,zp e,getElem!_pos l k hk]
   have:l.find? (λy=>decide (y.row=r))=some l[k]:=by
    rw [List.find?_eq_some_iff_getElem]
    exact ⟨by simpa [h2] using e,k,hk,rfl,λj hj=>by have:=h3 j hj;rw [e] at this;simpa using this⟩
   show l[k].many+1=eU l r+1
   unfold eU
   rw [this];rfl
  ·rw [zn e,zn e];omega
theorem zM (q:Qu) (ws:List Wd) (r:List Vl):∀i≤ws.length,eU (gR q (ws.take i)) r=(((ws.take i).countP λw=>decide (fJ q w.row=r):Nat):Int)
 |0,_=>by simp [gR,eU]
 |i+1,h=>by
  have ih:=zM q ws r i (by omega)
  rw [wW (by omega),amM,ih,List.take_succ_eq_append_getElem (by omega),List.countP_append]
  by_cases e:fJ q ws[i].row=r
  ·rw [zp e];simp [e]
  ·rw [zn e];simp [e]
theorem zN {l:List It} (hn:(bW l).Nodup) {x:It} (hx:x∈l):eU l x.row=x.many:=by
 unfold eU
 induction l with
 |nil=>cases hx
 |cons y l ih=>
  have hn':y.row∉bW l/\(bW l).Nodup:=List.nodup_cons.1 hn
  rw [List.find?_cons]
  rcases zmc.1 hx with rfl|hx
  ·simp
  ·have:¬y.row=x.row:=λe=>hn'.1 (by rw [e];exact List.mem_map_of_mem hx)
   simp only [this,decide_false]
   exact ih hn'.2 hx
theorem aiQ {l m:List It} (h:l.Perm m) (hn:(bW m).Nodup) (r:List Vl):eU l r=eU m r:=by
 have hn2:(bW l).Nodup:=(h.map _).nodup_iff.2 hn
 by_cases e:∃x∈l,x.row=r
 ·obtain ⟨x,hx,rfl⟩:=e
  rw [zN hn2 hx,zN hn (h.mem_iff.1 hx)]
 ·rw [vH λx hx w=>e ⟨x,hx,w⟩,vH λx hx w=>e ⟨x,h.mem_iff.2 hx,w⟩]
theorem aaG {s:Sc} {b:Bs} {q:Qu} (hB:dE T.rightP s b=true) (h0:fB s q.all=0) (r:List Vl):fS s b q r=(((tQ b q).countP λw=>decide (fJ q w.row=r):Nat):Int):=by
 have e:bR s b q.all=(yG (ltQ q.order) (gR q (tQ b q)),0):=by
  unfold bR
  rw [zn (by rw [hB];simp),zn (by rw [h0];simp)];rfl
 unfold fS
 rw [e,zn (by simp)]
 show eU (yG (ltQ q.order) (gR q (tQ b q))) r=_
 rw [aiQ (dW _ _) (afJ q _)]
 have:=zM q (tQ b q) r _ (Nat.le_refl _)
 rw [List.take_length] at this
 exact this
theorem auH {s:Sc} {b:Bs} {q:Qu} (h:¬(dE T.rightP s b=true/\fB s q.all=0)) (r:List Vl):fS s b q r= -1:=by
 unfold fS
 rw [zp]
 unfold bR
 cases hB:dE T.rightP s b with
 |false=>simp
 |true=>
  rw [zn (by simp),zp λw=>h ⟨hB,w⟩]
  exact λw=>h ⟨hB,w⟩
theorem adH {s:Sc} {b:Bs} {q:Qu} {r:List Vl} (hn:0<=fS s b q r) (g:Nat->Ln->Bool):0<=fS s (cO g b) q r/\fS s (cO g b) q r<=fS s b q r:=by
 by_cases h:dE T.rightP s b=true/\fB s q.all=0
 ·rw [aaG h.1 h.2,aaG (ajL h.1) h.2]
  have:=(asP g b q).countP_le (p:=λw=>decide (fJ q w.row=r))
  omega
 ·rw [auH h] at hn;omega
end
section
attribute [local irreducible] Ev PWp
set_option maxRecDepth 10000
set_option maxHeartbeats 4000000
theorem aCR {A B:List (List PV)} (hl:A.length=B.length) (h:∀x∈A.zip B,WkL x.1 x.2):Wk (.seq A) (.seq B):=by
 have:=Wk.rows (f:=Prod.fst) (k:=Prod.snd) (l:=A.zip B) h
 rwa [List.map_fst_zip (by omega),List.map_snd_zip (by omega)] at this
theorem wk1 {a b:List PV} (h:WkL a b):Wk (.seq [a]) (.seq [b]):=aCR rfl λx hx=>by
 rw [zms.1 hx];exact h
theorem wk2 {a b c d:List PV} (h:WkL a b) (k:WkL c d):Wk (.seq [a,c]) (.seq [b,d]):=aCR rfl λx hx=>by
 simp only [List.zip_cons_cons,List.zip_nil_left,zmc,List.not_mem_nil,or_false] at hx
 rcases hx with rfl|rfl
 ·exact h
 ·exact k
def tW :PV:= .val (.slice none 0 0)
def wS :Sc:=[⟨⟨#[97]⟩,[⟨⟨#[105,100]⟩,0,1,false⟩,⟨⟨#[110]⟩,0,1,false⟩],[],[],[],[]⟩]
theorem aCY :Wk (.agg [.seq [[.val (.string ⟨#[97]⟩), .seq [(Co.mk ⟨#[105,100]⟩ 0 1 false).cells,(Co.mk ⟨#[110]⟩ 0 1 false).cells],tW,tW,tW,tW]]]) (.agg (scC wS)):=
 Wk.agg (.cons (wk1 (.cons (zwr _) (.cons (zwr _) (.cons Wk.nil (.cons Wk.nil (.cons Wk.nil (.cons Wk.nil .nil))))))) .nil)
theorem abM :PF Tryz.prog 10 [] (.agg (scC wS)):=by
 refine pF Tryz.func10 rfl (λst=> ?_)
 (repeat' first|exact Cn.any ⟨_,_,_,rfl,aCY,zsr _,rfl,rfl⟩|apply wDx pk;rfl;kernel_rfl;rfl;rfl|apply wZ;rfl|show Cn _;constructor|exact rfl|apply KR.mk;kernel_rfl|apply ncA;rfl;rfl;rfl;rotate_left;rfl;rfl|apply ldR pk;rfl;rfl;rotate_left;rfl;(focus ((repeat (first|exact aA _ _ _|assumption|refine (aC ‹_›).trans ?_));done));rfl;rfl|apply stR pk;rfl;rfl;(focus ((repeat (first|exact aA _ _ _|assumption|refine (aC ‹_›).trans ?_));done));rfl;rfl|omega|intros;omega|simp only [zql];omega|intros;simp only [zql];omega|intros;simp only;omega|intro h;omega|intro h;simp at h;done|intro h;simp at h;omega|(intro h;simp at h)|intro h)
theorem kT (n:Int):PF Tryz.prog 13 [(vi (n))] (.agg (Vl.mk 1 n e0).cells):=by
 refine pF Tryz.func13 rfl (λst=> ?_)
 (repeat' first|(show Cn (.r _ _ _);refine .any ⟨_,_,_,rfl,zwr _,zsr _, ?_,rfl⟩;try rfl)|apply wZ;rfl|show Cn _;constructor|exact rfl|apply KR.mk;kernel_rfl|omega|intros;omega|simp only [zql];omega|intros;simp only [zql];omega|intros;simp only;omega|intro h;omega|intro h;simp at h;done|intro h;simp at h;omega|(intro h;simp at h)|intro h)
def wC (n:Int):Cl:=⟨0,⟨1,n,e0⟩,[]⟩
def lnW (k n d:Int):Ln:=⟨k,[wC k,wC n],[⟨d,1⟩]⟩
theorem aAm (n:Int):WkL [(vi (0)),(vi (1)),(vi (n)),(vs (e0)),tW] (wC n).cells:= .cons (zwr _) (.cons (zwr _) (.cons (zwr _) (.cons (zwr _) (.cons Wk.nil .nil))))
theorem aBv (k n d:Int):Wk (.agg [(vi (k)), .seq [[(vi (0)),(vi (1)),(vi (k)),(vs (e0)),tW],[(vi (0)),(vi (1)),(vi (n)),(vs (e0)),tW]], .seq [Dt.cells ⟨d,1⟩]]) (.agg (lnW k n d).cells):=
 Wk.agg (.cons (zwr _) (.cons (wk2 (aAm k) (aAm n)) (.cons (zwr _) .nil)))
theorem mZ (k n d:Int):PF Tryz.prog 11 [(vi (k)),(vi (n)),(vi (d))] (.agg (lnW k n d).cells):=by
 have n1:=kT k
 have n2:=kT n
 have hw:=aBv k n d
 refine pF Tryz.func11 rfl (λst=> ?_)
 (repeat' first|exact Cn.any ⟨_,_,_,rfl,hw,zsr _,rfl,rfl⟩|apply wDx pk;rfl;kernel_rfl;rfl;rfl|(apply Cn.cf;focus (((first|apply n1|apply n2)<;>(first|assumption|omega));done))|(apply cV;focus (((first|apply n1|apply n2)<;>(first|assumption|omega));done))|apply wZ;rfl|show Cn _;constructor|exact rfl|apply KR.mk;kernel_rfl|apply ncA;rfl;rfl;rfl;rotate_left;rfl;rfl|apply ldR pk;rfl;rfl;rotate_left;rfl;(focus ((repeat (first|exact aA _ _ _|assumption|refine (aC ‹_›).trans ?_));done));rfl;rfl|apply stR pk;rfl;rfl;(focus ((repeat (first|exact aA _ _ _|assumption|refine (aC ‹_›).trans ?_));done));rfl;rfl|apply wY;rfl|omega|intros;omega|simp only [zql];omega|intros;simp only [zql];omega|intros;simp only;omega|intro h;omega|intro h;simp at h;done|intro h;simp at h;omega|(intro h;simp at h)|intro h)
def wB :Bs:=[⟨[lnW 1 5 1,lnW 2 5 2,lnW 3 7 3]⟩]
def wE :X.Ex:= .mk 0 1 X.v0 []
def wQ :Qu:=⟨0,[],[],[],[⟨0,wE⟩],[], -1⟩
def wQR :List PV:=[(vi (0)),tW,tW,tW, .seq [[(vi (0)),(vi (0)),(vi (1)),(vi (0)),(vi (0)),(vs (e0)),tW]],tW,(vi (-1))]
theorem auR :Wk (.agg wQR) (.agg wQ.cells):=
 Wk.agg (.cons (zwr _) (.cons Wk.nil (.cons Wk.nil (.cons Wk.nil (.cons (wk1 (.cons (zwr _) (.cons (zwr _) (.cons (zwr _) (.cons (zwr _) (.cons (zwr _) (.cons (zwr _) (.cons Wk.nil .nil)))))))) (.cons Wk.nil (.cons (zwr _) .nil)))))))
def wR (n:Int):List Vl:=[⟨1,n,e0⟩]
theorem aCS :ScB wS:=λt ht=>by
 rw [zms.1 ht]
 exact ⟨by decide,by decide,by decide,by decide,by decide⟩
theorem aCn :QuS wQ:=⟨by decide,by decide,by decide,by decide,by decide,λe he=>(by cases he),λo ho=>(by rw [zms.1 ho];simp [wE,X.Ex.ok,X.Ex.oks]),λn hn=>(by cases hn)⟩
theorem aBP :BsS 100 wB:=by unfold BsS LnS;decide
theorem aB7 :BsS 100 (dZ wB):=by unfold BsS LnS;decide
theorem wA :AnsH wS wB wQ.all:=pY (tI aBP (by decide) aCS (by decide)) aCn (by kernel_rfl) aBP (by kernel_rfl)
theorem wA2 :AnsH wS (dZ wB) wQ.all:=pY (tI aB7 (by decide) aCS (by decide)) aCn (by kernel_rfl) aB7 (by kernel_rfl)
theorem w5 :iG wS wB wQ (wR 5)=([(0,1),(0,2)],0):=by kernel_rfl
theorem w5o :anV wS wB wQ (wR 5)=([⟨1,1⟩,⟨2,1⟩],0):=by kernel_rfl
theorem w6 :iG wS wB wQ (wR 6)=([],4):=by kernel_rfl
theorem w6o :anV wS wB wQ (wR 6)=([],4):=by kernel_rfl
theorem wH (n:Int) (h:(iJ (bR wS (dZ wB) wQ.all) (wR n)).1.by_.length<1000000):WhyH wS wB wQ (wR n):=⟨wA,wA2,(show 1<4611686018427387904 by decide),by decide,λi hi=>by
 have:i=0:=by have:i<1:=hi;omega
 subst this;exact (show 3<100000000000 by decide),h⟩
theorem wH5 :WhyH wS wB wQ (wR 5):=wH 5 (of_decide_eq_true (by kernel_rfl))
theorem wH6 :WhyH wS wB wQ (wR 6):=wH 6 (of_decide_eq_true (by kernel_rfl))
theorem wB1 :cO (λ_=>aaX [⟨1,1⟩,⟨2,1⟩]) wB=[⟨[lnW 3 7 3]⟩]:=by kernel_rfl
theorem wB2 :cO (mH [(0,1),(0,2)]) wB=[⟨[lnW 3 7 3]⟩]:=by kernel_rfl
theorem agZ :PF Tryz.prog 4 [] (vb (true)):=by
 have h0:=abM
 have l1:=mZ 1 5 1
 have l2:=mZ 2 5 2
 have l3:=mZ 3 7 3
 have n5:=kT 5
 have n6:=kT 6
 have h1:PF Tryz.prog 12 [.agg (scC wS), .agg (bsC wB), .agg wQR, .seq ((wR 5).map Vl.cells)] (.tup [.seq ([((0:Int),(1:Int)),(0,2)].map P2),(vi (0))]):=λst=>PC.wkArgs (.cons (zwr _) (.cons (zwr _) (.cons auR (WkL.refl _)))) ((w5▸nH wH5) st)
 have h2:PF Tryz.prog 14 [.agg (scC wS), .agg (bsC wB), .agg wQR, .seq ((wR 5).map Vl.cells)] (.tup [.seq ([Dt.mk 1 1,Dt.mk 2 1].map Dt.cells),(vi (0))]):=λst=>PC.wkArgs (.cons (zwr _) (.cons (zwr _) (.cons auR (WkL.refl _)))) ((w5o▸kR wH5 (by rw [w5];decide) (by rw [w5];decide)) st)
 have h3:PF Tryz.prog 14 [.agg (scC wS), .agg (bsC wB), .agg wQR, .seq ((wR 6).map Vl.cells)] (.tup [.seq (([]:List Dt).map Dt.cells),(vi (4))]):=λst=>PC.wkArgs (.cons (zwr _) (.cons (zwr _) (.cons auR (WkL.refl _)))) ((w6o▸kR wH6 (by rw [w6];decide) (by rw [w6];decide)) st)
 have h4:PF Tryz.prog 15 [.seq ([((0:Int),(1:Int)),(0,2)].map P2), .seq ([((0:Int),(1:Int)),(0,2)].map P2)] (vb (true)):=atW [((0:Int),(1:Int)),(0,2)] [((0:Int),(1:Int)),(0,2)] (by decide)
 have h5:PF Tryz.prog 16 [.seq ([Dt.mk 1 1,Dt.mk 2 1].map Dt.cells), .seq ([Dt.mk 1 1,Dt.mk 2 1].map Dt.cells)] (vb (true)):=auP [Dt.mk 1 1,Dt.mk 2 1] [Dt.mk 1 1,Dt.mk 2 1] (by decide)
 have hbl:∀i (h:i<wB.length),wB[i].lines.length<1000000000000:=λi hi=>Nat.lt_trans (wH5.l i hi) (by decide)
 have h6:PF Tryz.prog 9 [.agg (bsC wB), .seq ([Dt.mk 1 1,Dt.mk 2 1].map Dt.cells)] (.agg (bsC [⟨[lnW 3 7 3]⟩])):=wB1▸rB wB [⟨1,1⟩,⟨2,1⟩] (by decide) (by decide) (λi hi=>⟨hbl i hi,λx hx=>by have:=((aBP.2 _ (zgm hi)).2 x hx).1;omega⟩)
 have h7:PF Tryz.prog 8 [.agg (bsC wB), .seq ([((0:Int),(1:Int)),(0,2)].map P2)] (.agg (bsC [⟨[lnW 3 7 3]⟩])):=wB2▸rQ wB [(0,1),(0,2)] (by decide) (by decide) hbl
 have h8:PF Tryz.prog 17 [.agg (bsC [⟨[lnW 3 7 3]⟩]),(vi (0))] (.seq (([[⟨1,3,e0⟩,⟨1,7,e0⟩]]:List (List Vl)).map roC)):=ahY jK [⟨[lnW 3 7 3]⟩] 0 (by decide) (by decide) λl hl=>by
  rw [zms.1 hl]
  exact ⟨by decide,λc hc=>alI c (by
   rcases zmc.1 hc with rfl|hc
   ·decide
   ·rw [zms.1 hc];decide)⟩
 refine pF Tryz.func4 rfl (λst=> ?_)
 (repeat' first|(show Cn (.r _ _ _);refine .any ⟨_,_,_,rfl,zwr _,zsr _, ?_,rfl⟩;try rfl)|apply wZ;rfl|show Cn _;constructor|exact rfl|apply KR.mk;kernel_rfl|((first|apply h0|apply l1|apply l2|apply l3|apply n5|apply n6|apply h1|apply h2|apply h3|apply h4|apply h5|apply h6|apply h7|apply h8)<;>(first|assumption|omega))|apply wY;rfl|omega|intros;omega|simp only [zql];omega|intros;simp only [zql];omega|intros;simp only;omega|intro h;omega|intro h;simp at h;done|intro h;simp at h;omega|(intro h;simp at h)|intro h)
structure NoneH (s:Sc) (b:Bs) (q:Qu):Prop where
 m:MayH s b q
 sB:ScB s
theorem anM {s:Sc} {b:Bs} {q:Qu} (h:NoneH s b q) (r:List Vl) (l:List (Int×Int)) (d:List Dt):PF Tryz.prog 3 [.agg (scC s), .agg (bsC b), .agg q.cells, .seq (r.map Vl.cells), .seq (l.map P2), .seq (d.map Dt.cells)] (vb (true)):=by
 have h0:=agZ
 have hm:=iK h.m r
 have hg:=auX q h.m.hS.ol
 have hl2:(l.map P2).length=l.length:=zql _
 have hd2:(d.map Dt.cells).length=d.length:=zql _
 by_cases hok:¬(mayP s b q r=true/\nD q=false/\l.length<=60/\d.length<=60)
 ·generalize mayP s b q r=M at*
  generalize nD q=G at*
  refine pF Tryz.func3 rfl (λst=> ?_)
  (repeat' first|(show Cn (.r _ _ _);refine .any ⟨_,_,_,rfl,zwr _,zsr _, ?_,rfl⟩;try rfl)|apply wZ;rfl|show Cn _;constructor|exact rfl|apply KR.mk;kernel_rfl|((first|apply h0|apply hm|apply hg)<;>(first|assumption|omega))|apply wY;rfl|omega|intros;omega|simp only [zql];omega|intros;simp only [zql];omega|intros;simp only;omega|exfalso;apply hok;simp_all;omega|intro h;omega|intro h;simp at h;done|intro h;simp at h;omega|(intro h;simp at h)|intro h)
 obtain ⟨h1,h2,h3,h4⟩:=zdn hok
 rw [h1] at hm
 rw [h2] at hg
 have hmay:=h1
 unfold mayP at hmay
 simp only [zba,zde] at hmay
 obtain ⟨⟨⟨⟨y1,y2⟩,y3⟩,y4⟩,y5⟩:=hmay
 have hS:=aAp y2
 have hs30:s.length<1000000000000:=by
  unfold chk25 at y1
  simp only [zba,zde] at y1
  omega
 have hR:=fun {c:Bs} (hc:BsS 100 c)=>xB T.rightP s c hs30 h.sB (by have:=hc.1;omega) (hc.da (by decide))
 have hr60:r.length<4611686018427387904:=by omega
 have ht:=pM (pY (hR hS) h.m.hS h2 hS y4) r hr60
 have hbl:b.length<100000000000:=by have:=hS.1;omega
 have hll:∀i (h:i<b.length),b[i].lines.length<1000000000000:=λi hi=>by have:=(hS.2 _ (zgm hi)).1;omega
 have hdr:=rQ b l h3 hbl hll
 have hdn:PF Tryz.prog 8 [.agg (bsC b), .val (.slice none 0 0)] (.agg (bsC b)):=λst=>PC.wkArgs (.cons (zwr _) (.cons Wk.nil .nil)) ((aiX b▸rQ b [] (by decide) hbl hll) st)
 have hwt:=rB b d (by omega) hbl (λi hi=>⟨hll i hi,λx hx=>by have:=((hS.2 _ (zgm hi)).2 x hx).1;omega⟩)
 have t1:=pM (pY (hR (uB (g:=mH l) hS)) h.m.hS h2 (uB hS) (sZ y4)) r hr60
 have t2:=pM (pY (hR (uB (g:=λ_=>aaX d) hS)) h.m.hS h2 (uB hS) (sZ y4)) r hr60
 have n1:=λhn=>adH (s:=s) (b:=b) (q:=q) (r:=r) hn (mH l)
 have n2:=λhn=>adH (s:=s) (b:=b) (q:=q) (r:=r) hn (λ_=>aaX d)
 generalize fS s b q r=A at*
 generalize fS s (cO (mH l) b) q r=B at*
 generalize fS s (cO (λ_=>aaX d) b) q r=C at*
 generalize cO (mH l) b=X at*
 generalize cO (λ_=>aaX d) b=Y at*
 by_cases hA:A<0
 ·refine pF Tryz.func3 rfl (λst=> ?_)
  (repeat' first|(show Cn (.r _ _ _);refine .any ⟨_,_,_,rfl,zwr _,zsr _, ?_,rfl⟩;try rfl)|apply wZ;rfl|show Cn _;constructor|exact rfl|apply KR.mk;kernel_rfl|((first|apply h0|apply hm|apply hg|apply ht)<;>(first|assumption|omega))|apply wY;rfl|omega|intros;omega|simp only [zql];omega|intros;simp only [zql];omega|intros;simp only;omega|exfalso;omega|intro h;omega|intro h;simp at h;done|intro h;simp at h;omega|(intro h;simp at h)|intro h)
 obtain ⟨p1,p2⟩:=n1 (by omega)
 obtain ⟨p3,p4⟩:=n2 (by omega)
 refine pF Tryz.func3 rfl (λst=> ?_)
 (repeat' first|(show Cn (.r _ _ _);refine .any ⟨_,_,_,rfl,zwr _,zsr _, ?_,rfl⟩;try first|rfl|(simp [p1,p2,p3,p4]);done)|apply wZ;rfl|show Cn _;constructor|exact rfl|apply KR.mk;kernel_rfl|((first|apply h0|apply hm|apply hg|apply ht|apply hdr|apply hdn|apply hwt|apply t1|apply t2)<;>(first|assumption|omega))|show (_:PV)=_;(simp [p1,p2,p3,p4]);done|apply wY;rfl|omega|intros;omega|simp only [zql];omega|intros;simp only [zql];omega|intros;simp only;omega|exfalso;omega|intro h;omega|intro h;simp at h;done|intro h;simp at h;omega|(intro h;simp at h)|intro h)
end
end Go.Proofs.YtppdefkgmegipaaGreatDoor
namespace Go.Proofs.YtppdefkgmegipaaGreatDoor
open Go Go.Abs Go.ChangeShapes Go.WideShapes Go.ChangeAt Go.RowKit
set_option maxRecDepth 10000
theorem aCd {N n:Nat} {ps:List PV} (h:aW Tryz.prog N n 85 ps):∃v:Co,ps=v.cells:=by
 obtain ⟨m,pss,_,rfl,h2⟩:=bQ aT rfl h
 cases h2 with|cons ha h2=>cases h2 with|cons hb h2=>cases h2 with|cons hc h2=>cases h2 with|cons hd h2=>cases h2 with|nil=>
 obtain ⟨a,rfl,_⟩:=sN aT rfl ha
 obtain ⟨b,rfl,_⟩:=bI aT rfl hb
 obtain ⟨c,rfl,_⟩:=bI aT rfl hc
 obtain ⟨d,rfl⟩:=wN aT rfl hd
 exact ⟨⟨a,b,c,d⟩,rfl⟩
theorem avA {N n t:Nat} {fs:List (TypeId×Nat)} (ht:tiK tt t=some (.struct fs)) {α:Type} {f:α->List PV} (hf:fs.map (·.1)=[3,3,3]) (mk:Int->Int->Int->α) (hm:∀a b c,f (mk a b c)=[(vi (a)),(vi (b)),(vi (c))]) {ps:List PV} (h:aW Tryz.prog N n t ps):∃v:α,ps=f v:=by
 obtain ⟨m,pss,_,rfl,h2⟩:=bQ aT ht h
 rw [hf] at h2
 cases h2 with|cons ha h2=>cases h2 with|cons hb h2=>cases h2 with|cons hc h2=>cases h2 with|nil=>
 obtain ⟨a,rfl,_⟩:=bI aT rfl ha
 obtain ⟨b,rfl,_⟩:=bI aT rfl hb
 obtain ⟨c,rfl,_⟩:=bI aT rfl hc
 exact ⟨mk a b c,(hm a b c).symm⟩
theorem akP :∀{l:List X.Ex},(∀e∈l,e.ok)->X.Ex.oks l
 |[],_=>by simp [X.Ex.oks]
 |e::l,h=>by
  simp only [X.Ex.oks]
  exact ⟨h e (List.mem_cons_self ..),akP λx hx=>h x (List.mem_cons_of_mem _ hx)⟩
theorem amJ :∀{n:Nat} {ps:List PV},aW Tryz.prog reachBytes n 56 ps->∃e:X.Ex,ps=e.cells/\e.ok:=by
 intro n
 induction n using Nat.strongRecOn with
 |_ n ih=>
  intro ps h
  obtain ⟨m,pss,hm,rfl,h2⟩:=bQ aT rfl h
  cases h2 with|cons ha h2=>cases h2 with|cons hb h2=>cases h2 with|cons hc h2=>cases h2 with|cons hd h2=>cases h2 with|nil=>
  obtain ⟨a,rfl,_⟩:=bI aT rfl ha
  obtain ⟨b,rfl,_⟩:=bI aT rfl hb
  obtain ⟨c,rfl⟩:=alA hc
  obtain ⟨m',rows,hm',rfl,hl,hr⟩:=bG aT rfl hd
  obtain ⟨l,rfl,hl2,hq⟩:=pZ (f:=X.Ex.cells) λr hr'=>ih m' (by omega) (hr r hr')
  refine ⟨.mk a b c l,by rw [<-X.Ex.rows_map];rfl, ?_⟩
  simp only [X.Ex.ok]
  have h62:reachBytes<2^62:=by decide
  exact ⟨by omega,akP hq⟩
theorem aCA {n:Nat} {ps:List PV} (h:aW Tryz.prog reachBytes n 90 ps):∃v:Tb,ps=v.cells/\TbB v/\vF v:=by
 obtain ⟨m,pss,_,rfl,h2⟩:=bQ aT rfl h
 cases h2 with|cons ha h2=>cases h2 with|cons hb h2=>cases h2 with|cons hc h2=>cases h2 with|cons hd h2=>cases h2 with|cons he h2=>cases h2 with|cons hf h2=>cases h2 with|nil=>
 obtain ⟨a,rfl,_⟩:=sN aT rfl ha
 obtain ⟨_,b,_,rfl,lb,hr⟩:=bG aT rfl hb
 obtain ⟨b,rfl⟩:=gI (f:=Co.cells) λr hr'=>aCd (hr r hr')
 obtain ⟨_,c,_,rfl,lc,hr⟩:=bG aT rfl hc
 obtain ⟨c,rfl⟩:=gI (f:=I1) λr hr'=>by
  obtain ⟨x,rfl,_⟩:=bI aT rfl (hr r hr');exact ⟨x,rfl⟩
 obtain ⟨_,d,_,rfl,ld,hrd⟩:=bG aT rfl hd
 have hck:∀c∈d,∃e:X.Ex,e.ok/\e.cells=c:=λc hc=>by
  obtain ⟨e,h1,h2⟩:=amJ (hrd c hc)
  exact ⟨e,h2,h1.symm⟩
 obtain ⟨_,e,_,rfl,le,hr⟩:=bG aT rfl he
 obtain ⟨e,rfl⟩:=gI (f:=Fr.cells) λr hr'=>avA rfl rfl Fr.mk (λ_ _ _=>rfl) (hr r hr')
 obtain ⟨_,f,_,rfl,lf,hr⟩:=bG aT rfl hf
 obtain ⟨f,rfl⟩:=gI (f:=Su.cells) λr hr'=>avA rfl rfl Su.mk (λ_ _ _=>rfl) (hr r hr')
 rw [zql] at lb lc le lf
 have h:=show reachBytes<200000000000000 by decide
 exact ⟨⟨a,b,c,d,e,f⟩,rfl,⟨Nat.lt_of_le_of_lt lb h,Nat.lt_of_le_of_lt lc h,Nat.lt_of_le_of_lt ld h,Nat.lt_of_le_of_lt le h,Nat.lt_of_le_of_lt lf h⟩,hck⟩
theorem aCm {n:Nat} {ps:List PV} (h:aW Tryz.prog reachBytes n 24 ps):∃v:{s:Sc//s.length<200000000000000/\ScB s/\∀t∈s,vF t/\t.checks.length<4611686018427387904},ps=scC v.1:=by
 obtain ⟨m,pss,_,rfl,h2⟩:=bQ aT rfl h
 cases h2 with|cons ha h2=>cases h2 with|nil=>
 obtain ⟨_,c,_,rfl,lc,hr⟩:=bG aT rfl ha
 obtain ⟨c,rfl,hl,hq⟩:=pZ λr hr'=>aCA (hr r hr')
 rw [zql] at lc
 have h:=show reachBytes<200000000000000 by decide
 exact ⟨⟨c,Nat.lt_of_le_of_lt lc h,λt ht=>(hq t ht).1,λt ht=>⟨(hq t ht).2,Nat.lt_trans (hq t ht).1.k (by decide)⟩⟩,rfl⟩
theorem aBj {N n:Nat} {ps:List PV} (h:aW Tryz.prog N n 3 ps):∃x:Int,ps=I1 x/\(-9223372036854775808<=x/\x<=9223372036854775807):=by
 obtain ⟨x,rfl,w⟩:=bI aT rfl h
 exact ⟨x,rfl,by simpa [Lit.wf,IntKind.min,IntKind.max,IntKind.signed,IntKind.bits] using w⟩
theorem aCB {n:Nat} {ps:List PV} (h:aW Tryz.prog reachBytes n 58 ps):∃o:Ou,ps=o.cells/\o.of.ok:=by
 obtain ⟨m,pss,_,rfl,h2⟩:=bQ aT rfl h
 cases h2 with|cons ha h2=>cases h2 with|cons hb h2=>cases h2 with|nil=>
 obtain ⟨a,rfl,_⟩:=bI aT rfl ha
 obtain ⟨e,rfl,he⟩:=amJ hb
 exact ⟨⟨a,e⟩,by simp [Ou.cells],he⟩
theorem axG :Tryz.prog.bytesOf 58=80:=by kernel_rfl
structure QuA (q:Qu):Prop where
 s:QuS q
 o:q.outs.length<1800000000000
 g:∀e∈q.group,e.ok
theorem aB5 {n:Nat} {ps:List PV} (h:aW Tryz.prog reachBytes n 33 ps):∃v:{q:Qu//QuA q},ps=v.1.cells:=by
 obtain ⟨m,pss,_,rfl,h2⟩:=bQ aT rfl h
 cases h2 with|cons ha h2=>cases h2 with|cons hb h2=>cases h2 with|cons hc h2=>cases h2 with|cons hd h2=>cases h2 with|cons he h2=>cases h2 with|cons hf h2=>cases h2 with|cons hg h2=>cases h2 with|nil=>
 obtain ⟨a,rfl,_⟩:=bI aT rfl ha
 obtain ⟨_,b,_,rfl,lb,hr⟩:=bG aT rfl hb
 obtain ⟨b,rfl⟩:=gI (f:=Jn.cells) λr hr'=>avA rfl rfl Jn.mk (λ_ _ _=>rfl) (hr r hr')
 obtain ⟨_,c,_,rfl,lc,hr⟩:=bG aT rfl hc
 obtain ⟨c,rfl,_,qc⟩:=pZ λr hr'=>amJ (hr r hr')
 obtain ⟨_,d,_,rfl,ld,hr⟩:=bG aT rfl hd
 obtain ⟨d,rfl,_,qd⟩:=pZ λr hr'=>amJ (hr r hr')
 obtain ⟨_,e,_,rfl,le,hr⟩:=aaO aT rfl he
 obtain ⟨e,rfl,_,qe⟩:=pZ λr hr'=>aCB (hr r hr')
 obtain ⟨_,f,_,rfl,lf,hr⟩:=bG aT rfl hf
 obtain ⟨f,rfl,_,qf⟩:=pZ λr hr'=>aBj (hr r hr')
 obtain ⟨g,rfl,_⟩:=bI aT rfl hg
 rw [zql] at lb lc ld le lf
 rw [axG] at le
 have h:=show reachBytes=140737488351232 by decide
 exact ⟨⟨⟨a,b,c,d,e,f,g⟩,⟨by show b.length<_;omega,by show c.length<_;omega,by show d.length<_;omega,by show e.length<_;omega,by show f.length<_;omega,qc,qe,qf⟩,by show e.length<_;omega,qd⟩,rfl⟩
theorem aBC {n:Nat} {ps:List PV} (h:aW Tryz.prog reachBytes n 35 ps):∃v:List Vl,ps=[.seq (v.map Vl.cells)]:=by
 obtain ⟨_,c,_,rfl,_,hr⟩:=bG aT rfl h
 obtain ⟨c,rfl⟩:=gI (f:=Vl.cells) λr hr'=>alA (hr r hr')
 exact ⟨c,rfl⟩
theorem aAH {n:Nat} {ps:List PV} (h:aW Tryz.prog reachBytes n 37 ps):∃v:List Dt,ps=[.seq (v.map Dt.cells)]:=by
 obtain ⟨_,c,_,rfl,_,hr⟩:=bG aT rfl h
 obtain ⟨c,rfl⟩:=gI (f:=Dt.cells) λr hr'=>akE (hr r hr')
 exact ⟨c,rfl⟩
theorem aBt {n:Nat} {ps:List PV} (h:aW Tryz.prog reachBytes n 36 ps):∃v:List (Int×Int),ps=[.seq (v.map P2)]:=by
 obtain ⟨_,c,_,rfl,_,hr⟩:=bG aT rfl h
 obtain ⟨c,rfl⟩:=gI (f:=P2) λr hr'=>avU (hr r hr')
 exact ⟨c,rfl⟩
theorem aBf (s:{s:Sc//s.length<200000000000000/\ScB s/\∀t∈s,vF t/\t.checks.length<4611686018427387904}) (b:{b:Bs//BB b}) (q:{q:Qu//QuA q}):NoneH s.1 b.1 q.1:=⟨⟨s.2.1,s.2.2.2,b.2.b,q.2.s,q.2.o,q.2.g⟩,s.2.2.1⟩
end Go.Proofs.YtppdefkgmegipaaGreatDoor
