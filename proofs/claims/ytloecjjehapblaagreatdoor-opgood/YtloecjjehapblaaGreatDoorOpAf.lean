import Derived.Test.YtloecjjehapblaaGreatDoorOpAe
set_option linter.unusedSimpArgs false
set_option linter.unusedVariables false
namespace Go.Proofs.YtloecjjehapblaaGreatDoor
open Go Go.Abs
attribute [local irreducible] Ev PWp
set_option maxRecDepth 10000
set_option maxHeartbeats 4000000
abbrev Bs :=List Da
def bsC (b:Bs):List PV:=[.seq (b.map Da.cells)]
def okT (b:Bs) (k:Int):Bool:=decide (0<=k)&&decide (k<b.length)
def aO (b:Bs) (k:Int):List Ln:=if okT b k then (b[k.toNat]!).lines else []
theorem arN (b:Bs) (k:Int) (h:okT b k=false):PF Tryz.prog 62 [.agg (bsC b),(PV.val (Value.int .i64 (k)))] (.tup [.agg [.seq [], .seq [],(PV.val (Value.int .i64 (0)))],(PV.val (Value.bool (false)))]):=by
 unfold okT at h
 simp only [Bool.and_eq_false_iff,decide_eq_false_iff_not] at h
 refine aG aF Tryz.func62 (by kernel_rfl) rfl rfl rfl rfl (λst=> ?_)
 (try apply wO pk;rfl);(repeat' first|show All _;constructor|show Imp _ _;constructor|show ImpX _ _ _ _;constructor|apply wC pk;rfl;rfl|refine aA rfl ?_ ?_<;>intro h<;>(try simp at h)<;>try omega|(refine aC ?_;first|refine ⟨_,_,_,rfl,zwr _,zsr _, ?_,rfl⟩;(fail)|refine ⟨_,_,_,rfl,zwr _,aL ‹_›, ?_,rfl⟩;(fail)|refine ⟨_,_,_,rfl,zwf _,zsr _, ?_,rfl⟩;(rfl)|refine ⟨_,_,_,rfl,zwf _,aL ‹_›, ?_,rfl⟩;(fail)|(refine ⟨_,_,_,rfl,zwr _,zsr _, ?_,rfl⟩)|(refine ⟨_,_,_,rfl,zwf _,aL ‹_›, ?_,rfl⟩)))
theorem aaO (b:Bs) (k:Nat) (h:k<b.length):PF Tryz.prog 62 [.agg (bsC b),(PV.val (Value.int .i64 ((k:Nat))))] (.tup [.agg [.seq (b[k].lines.map Ln.cells), .seq (b.map Da.cells),(PV.val (Value.int .i64 ((k:Nat))))],(PV.val (Value.bool (true)))]):=by
 refine aG aF Tryz.func62 (by kernel_rfl) rfl rfl rfl rfl (λst=> ?_)
 (try apply wO pk;rfl);(repeat' first|show All _;constructor|show Imp _ _;constructor|show ImpX _ _ _ _;constructor|apply wC pk;rfl;rfl|apply wE pk;rfl;rfl|apply wD pk [] [];kernel_rfl;rfl;rfl|refine aA rfl ?_ ?_<;>intro h<;>(try simp at h)<;>try omega|(refine aC ?_;refine ⟨_,_,_,rfl,zwr _,zsr _, ?_,rfl⟩;try rfl)|apply aN pk;(iterate 6 rfl);rotate_left;rfl;(intro hw;rfl);(intro hw;apply aI<;>omega);(intro _;rfl);rfl)
theorem azZ (x:Ln) (k:Int):PF Tryz.prog 109 [.agg x.cells, .rp [(PV.val (Value.int .i64 (k)))]] (PV.val (Value.bool (decide (x.key=k)))):=by
 refine aG aF Tryz.func109 (by kernel_rfl) rfl rfl rfl rfl (λst=> ?_)
 (try apply wO pk;rfl);(repeat' first|show All _;constructor|(refine aC ?_;refine ⟨_,_,_,rfl,zwr _,zsr _, ?_,rfl⟩;try rfl))
theorem aBR (x:Ln) (k:Int):PF Tryz.prog 110 [.agg x.cells, .rp [(PV.val (Value.int .i64 (k)))]] (PV.val (Value.bool (decide (x.key>k)))):=by
 refine aG aF Tryz.func110 (by kernel_rfl) rfl rfl rfl rfl (λst=> ?_)
 (try apply wO pk;rfl);(repeat' first|show All _;constructor|(refine aC ?_;refine ⟨_,_,_,rfl,zwr _,zsr _, ?_,rfl⟩;try rfl))
def atP (l:List Ln) (k:Int):Int×Bool:=
 if cR (λx=>decide (x.key=k)) l>=0 then (cR (λx=>decide (x.key=k)) l,true)
 else if cR (λx=>decide (x.key>k)) l>=0 then (cR (λx=>decide (x.key>k)) l,false) else (l.length,false)
theorem agC (l:List Ln) (k:Int) (hl:l.length<1000000000000):PF Tryz.prog 63 [.seq (l.map Ln.cells),(PV.val (Value.int .i64 (k)))] (.tup [(PV.val (Value.int .i64 ((atP l k).1))),(PV.val (Value.bool ((atP l k).2)))]):=by
 have h1:=adJ 109 [.rp [(PV.val (Value.int .i64 (k)))]] (λx=>decide (x.key=k)) l (by omega) λx=>azZ x k
 have h2:=adJ 110 [.rp [(PV.val (Value.int .i64 (k)))]] (λx=>decide (x.key>k)) l (by omega) λx=>aBR x k
 unfold atP
 generalize cR (λx=>decide (x.key=k)) l=A at*
 generalize cR (λx=>decide (x.key>k)) l=B at*
 refine aG aF Tryz.func63 (by kernel_rfl) rfl rfl rfl rfl (λst=> ?_)
 (try apply wO pk;rfl);(repeat' first|show All _;constructor|show Imp _ _;constructor|apply wC pk;rfl;rfl|apply wE pk;rfl;rfl|refine aA rfl ?_ ?_<;>intro h<;>(try simp at h)<;>try omega|(refine aC ?_;refine ⟨_,_,_,rfl,zwr _,zsr _, ?_,rfl⟩;try first|rfl|(first|rw [if_pos (by omega)];done|rw [if_neg (by omega),if_pos (by omega)];done|rw [if_neg (by omega),if_neg (by omega)];simp);done)|(apply aH;rfl;rfl;rfl;(intro _;(first|apply h1|apply h2)<;>first|assumption|omega);rotate_left;rfl;rfl)|apply bC 3;rfl;rfl)
theorem auE {st:aJ} {id:Nat} {o:Option AObj} {a b:AObj} (h:b=a):StSub (upd st id (some a)) (upd (upd st id o) id (some b)):=λj=>by
 subst h
 right
 by_cases e:j=id
 ·subst e;rw [aB,aB]
 ·simp only [aD e]
theorem aB4 (b:Bs) (ls l0:List Ln) (k:Nat) (st:aJ) (hk:k<b.length) (hl:b.length<100000000000):PC Tryz.prog 236 [.agg [.seq (l0.map Ln.cells), .seq (b.map Da.cells),(PV.val (Value.int .i64 ((k:Nat))))], .seq (ls.map Ln.cells)] st λr S=>∃id,r= .agg [.vec id 1 0 b.length]/\st id=none/\S=upd st id (some (.arr 86 ((b.set k ⟨ls⟩).map Da.cells))):=by
 refine bZ aF Tryz.func236 (by kernel_rfl) rfl rfl rfl rfl ?_
 (try apply wO pk;rfl);(repeat' first|refine aC ?_;refine ⟨_,_,upd st id (some (.arr 86 ((b.set k ⟨ls⟩).map Da.cells))),rfl,zwr _, ?_,id,rfl,hid,rfl⟩;exact auE (by simp)|show All _;constructor|show Imp _ _;constructor|apply wE pk;rfl;rfl|apply ixA pk;(iterate 5 rfl);rotate_left;rfl;(intro hw;(exact (show _=((k:Nat):Int) from by omega)));(intro hw;(omega));rfl;(exact Nat.zero_add _)|apply stA pk Da.elem;rfl;rfl;rfl;(exact aB _ _ _);(omega);rfl|(apply cB;rfl;rfl;(apply (awX b _ (by omega))<;>first|exact aB _ _ _|assumption|omega|(fail));rfl;rfl;rfl;intro _ st' hR;obtain ⟨id,rfl,hid,rfl⟩:=hR))
theorem auA (b:Bs) (ls l0:List Ln) (k:Nat) (hk:k<b.length) (hl:b.length<100000000000):PF Tryz.prog 236 [.agg [.seq (l0.map Ln.cells), .seq (b.map Da.cells),(PV.val (Value.int .i64 ((k:Nat))))], .seq (ls.map Ln.cells)] (.agg (bsC (b.set k ⟨ls⟩))):=λst=>
 gL (sz:=1) (aB4 b ls l0 k st hk hl) λp st' h=>by
  obtain ⟨id,rfl,h3,rfl⟩:=h
  refine .inl ⟨id,86,(b.set k ⟨ls⟩).map Da.cells,_,st,aB _ _ _,afL, .agg (.cons ?_ .nil),cX h3,rfl,rfl⟩
  have e:((b.set k ⟨ls⟩).map Da.cells).length=b.length:=by simp
  rw [<-e];exact .all
theorem axT (b:Bs) (ls l0:List Ln) (k id n:Nat) (st:aJ) (hst:st id=some (.arr 67 (ls.map Ln.cells))) (hn:ls.length=n) (hk:k<b.length) (hl:b.length<100000000000):PC Tryz.prog 236 [.agg [.seq (l0.map Ln.cells), .seq (b.map Da.cells),(PV.val (Value.int .i64 ((k:Nat))))], .vec id 3 0 n] st λr S=>r= .agg (bsC (b.set k ⟨ls⟩))/\S=upd st id none:=
 PC.freeze2 hst qE ((zql _).trans hn) (auA b ls l0 k hk hl _)
theorem zK {α:Type} (f:α->Bool) (l:List α):(∃j:Nat,j<l.length/\cR f l=j)\/cR f l= -1:=by
 unfold cR
 cases h:l.findIdx? f with
 |none=>exact .inr rfl
 |some j=>exact .inl ⟨j,(List.findIdx?_eq_some_iff_getElem.1 h).1,rfl⟩
theorem ahG (l:List Ln) (k:Int):∃j:Nat,j<=l.length/\(atP l k).1=j/\((atP l k).2=true->j<l.length):=by
 unfold atP
 rcases zK (λx:Ln=>decide (x.key=k)) l with ⟨j,hj,e⟩|e
 ·rw [if_pos (by omega)];exact ⟨j,by omega,e,λ_=>hj⟩
 ·rw [if_neg (by omega)]
  rcases zK (λx:Ln=>decide (x.key>k)) l with ⟨j,hj,e⟩|e
  ·rw [if_pos (by omega)];exact ⟨j,by omega,e,λh=>by cases h⟩
  ·rw [if_neg (by omega)];exact ⟨l.length,Nat.le_refl _,rfl,λh=>by cases h⟩
def oR (l:List Ln) (a:Ln):List Ln:=if (atP l a.key).2 then l.set (atP l a.key).1.toNat a else eF l (atP l a.key).1.toNat [a]
def sQ (b:Bs) (k:Int) (a:Ln):Bs:=if okT b k then b.set k.toNat ⟨oR (aO b k) a⟩ else b
theorem ahJ (b:Bs) (k:Int) (a:Ln) (hl:b.length<100000000000) (hll:∀d∈b,d.lines.length<100000000000):PF Tryz.prog 155 [.agg (bsC b),(PV.val (Value.int .i64 (k))), .agg a.cells] (.agg (bsC (sQ b k a))):=by
 unfold sQ
 cases hok:okT b k with
 |false=>
  have ho:=arN b k hok
  rw [if_neg (by simp)]
  refine aG aF Tryz.func155 (by kernel_rfl) rfl rfl rfl rfl (λst=> ?_)
  (try apply wO pk;rfl);(repeat' first|show All _;constructor|show Imp _ _;constructor|apply wC pk;rfl;rfl|apply wE pk;rfl;rfl|refine aA rfl ?_ ?_<;>intro h<;>(try simp at h)<;>try omega|(refine aC ?_;refine ⟨_,_,_,rfl,zwr _,zsr _, ?_,rfl⟩;try rfl)|(apply aH;rfl;rfl;rfl;(intro _;apply ho<;>first|assumption|omega);rotate_left;rfl;rfl))
 |true=>
  obtain ⟨q,rfl,hq⟩:∃q:Nat,k=q/\q<b.length:=by
   unfold okT at hok
   simp only [zba,zde] at hok
   exact ⟨k.toNat,by omega,by omega⟩
  have ho:=aaO b q hq
  have hlq:=hll b[q] (zgm hq)
  have hln:aO b q=b[q].lines:=by unfold aO;rw [if_pos hok];simp [hq]
  rw [if_pos rfl,hln,Int.toNat_natCast]
  generalize hLe:b[q].lines=L at*
  have ha:=agC L a.key (by omega)
  obtain ⟨j,hj,e1,e2⟩:=ahG L a.key
  unfold oR
  rw [e1] at ha⊢
  rw [Int.toNat_natCast]
  cases hf:(atP L a.key).2 with
  |true=>
   have hjl:=e2 hf
   rw [hf] at ha
   rw [if_pos rfl]
   refine aG aF Tryz.func155 (by kernel_rfl) rfl rfl rfl rfl (λst=> ?_)
   (try apply wO pk;rfl);(repeat' first|refine aC ?_;exact ⟨_,_,st,rfl,zwr _,bO (bO (bO (zsr _) hid) hid) hid,(by rw [show (L.toArray.setIfInBounds j a).toList=L.set j a from by simp];rfl),rfl⟩|show All _;constructor|show Imp _ _;constructor|apply wC pk;rfl;rfl|apply wE pk;rfl;rfl|refine aA rfl ?_ ?_<;>intro h<;>(try simp at h)<;>try omega|(apply aH;rfl;rfl;rfl;(intro _;(first|apply ho|apply ha)<;>first|assumption|omega);rotate_left;rfl;rfl)|apply ixA pk;(iterate 5 rfl);rotate_left;rfl;(intro hw;(exact (show _=((j:Nat):Int) from by omega)));(intro hw;(omega));rfl;(exact Nat.zero_add _)|apply stA pk Ln.elem;rfl;rfl;rfl;(exact aB _ _ _);(omega);rfl|(apply cB;rfl;rfl;(apply (adN L _ (by omega))<;>first|exact aB _ _ _|assumption|omega|(fail));rfl;rfl;rfl;intro _ st' hR;obtain ⟨id,rfl,hid,rfl⟩:=hR)|(apply cB;rfl;rfl;((apply (axT b ((L.toArray.setIfInBounds j a).toList) L q id L.length _ (aB _ _ _) (by simp) hq hl)<;>first|exact aB _ _ _|assumption|omega|simp only [zqs];omega|(fail)));rfl;rfl;rfl;intro _ st' hR;(obtain ⟨rfl,rfl⟩:=hR)))
  |false=>
   rw [hf] at ha
   rw [if_neg (by simp)]
   refine aG aF Tryz.func155 (by kernel_rfl) rfl rfl rfl rfl (λst=> ?_)
   (try apply wO pk;rfl);(repeat' first|refine aC ?_;exact ⟨_,_,st,rfl,zwr _,bO (bO (bO (bO (zsr _) hid) hid) (gQ hid hid2)) (gQ hid hid2),rfl,rfl⟩|show All _;constructor|show Imp _ _;constructor|apply wC pk;rfl;rfl|apply wE pk;rfl;rfl|refine aA rfl ?_ ?_<;>intro h<;>(try simp at h)<;>try omega|(apply aH;rfl;rfl;rfl;(intro _;(first|apply ho|apply ha)<;>first|assumption|omega);rotate_left;rfl;rfl)|(apply cB;rfl;rfl;(apply (adN L _ (by omega))<;>first|exact aB _ _ _|assumption|omega|(fail));rfl;rfl;rfl;intro _ st' hR;obtain ⟨id,rfl,hid,rfl⟩:=hR)|(apply cB;rfl;rfl;(apply (azG L [a] j id L.length _ (aB _ _ _) rfl hj (by simp) (by simp;omega))<;>first|exact aB _ _ _|assumption|omega|(fail));rfl;rfl;rfl;intro _ st' hR;obtain ⟨id2,rfl,hid2,rfl⟩:=hR)|(apply cB;rfl;rfl;((apply (axT b (eF L j [a]) L q id2 (eF L j [a]).length _ (aB _ _ _) rfl hq hl)<;>first|exact aB _ _ _|assumption|omega|simp only [zqs];omega|(fail)));rfl;rfl;rfl;intro _ st' hR;(obtain ⟨rfl,rfl⟩:=hR)))
def azN (b:Bs) (k key:Int):Bs:=if okT b k then if (atP (aO b k) key).2 then b.set k.toNat ⟨(aO b k).eraseIdx (atP (aO b k) key).1.toNat⟩ else b else b
theorem aEo (k:Int):atP [] k=(0,false):=rfl
def lQ (c:Cl):Bool:=decide (c.parts.length<=40)&&decide (c.val.s.size<=400)
def fJ (a:Ln):Bool:=a.cells_.all lQ&&(decide (a.cells_.length<=20)&&decide (a.by_.length<=60))
theorem abL (a:Ln) (hl:a.cells_.length<4611686018427387904):PF Tryz.prog 121 [.agg a.cells] (PV.val (Value.bool (fJ a))):=by
 refine aG aF Tryz.func121 (by kernel_rfl) rfl rfl rfl rfl (λst=> ?_)
 (try apply wO pk;rfl);(repeat' (show All _;constructor))
 refine aK (X:={x:Nat//x<=a.cells_.length/\∀j (h:j<x) (h1:j<a.cells_.length),lQ a.cells_[j]=true}) (λi=>(((St.nil 40 st).var 1 67 (a.cells)).pv 3 ((PV.val (Value.int .i64 ((i.1:Nat))))))) (λi=>a.cells_.length-i.1) ⟨0,by omega,λ_ h=>absurd h (Nat.not_lt_zero _)⟩ ?_ (λi=> ?_)
 ·((repeat (first|refine Sub.pv ?_ rfl|refine Sub.var ?_ rfl rfl));exact Sub.nil _ _ _ (zsr _) rfl)
 obtain ⟨i,hi,hI⟩:=i
 dsimp only
 by_cases hend:a.cells_.length<=i
 ·have e:a.cells_.all lQ=true:=zal.2 λc hc=>by
   obtain ⟨j,hj,rfl⟩:=List.getElem_of_mem hc
   exact hI j (by omega) hj
  unfold fJ
  rw [e,Bool.true_and]
  have e2:(decide (((a.cells_.map Cl.cells).length:Int)<=20)&&decide (((a.by_.map Dt.cells).length:Int)<=60))=(decide (a.cells_.length<=20)&&decide (a.by_.length<=60)):=by
   rw [Bool.eq_iff_iff];simp only [zba,zde,zql];omega
  (try apply wO pk;rfl);(repeat' first|show All _;constructor|show Imp _ _;constructor|show ImpX _ _ _ _;constructor|apply wC pk;rfl;rfl|refine aA rfl ?_ ?_<;>intro h<;>(try simp at h)<;>try omega|(refine aC ?_;refine ⟨_,_,_,rfl,zwr _,zsr _, ?_,rfl⟩;try first|rfl|(rw [e2]);done))
 have h1:i<a.cells_.length:=by omega
 have hF:lQ a.cells_[i]=false->fJ a=false:=λh=>by
  unfold fJ
  have:a.cells_.all lQ=false:=by
   rw [<-Bool.not_eq_true,zal]
   intro q;rw [q _ (zgm h1)] at h;cases h
  rw [this];rfl
 have hS:lQ a.cells_[i]=true->∀j (h:j<i+1) (h1:j<a.cells_.length),lQ a.cells_[j]=true:=λh j hj h1=>by
  rcases Nat.lt_succ_iff_lt_or_eq.1 hj with q|q
  ·exact hI j q h1
  ·subst q;exact h
 unfold lQ at hF hS
 (try apply wO pk;rfl);(repeat' first|show All _;constructor|show Imp _ _;constructor|show ImpX _ _ _ _;constructor|apply wC pk;rfl;rfl|apply wE pk;rfl;rfl|refine aA rfl ?_ ?_<;>intro h<;>(try simp at h)<;>try omega|(refine aC ?_;refine ⟨_,_,_,rfl,zwr _,zsr _, ?_,rfl⟩;try first|rfl|(rw [hF (by simp;omega)]);done)|apply aN pk;(iterate 6 rfl);rotate_left;rfl;(intro hw;rfl);(intro hw;apply aI<;>omega);(intro _;rfl);rfl|(refine ⟨⟨i+1,by omega,hS (by simp;omega)⟩, ?_,by simp only;omega⟩;((repeat (first|refine Sub.pv ?_ rfl|refine Sub.var ?_ rfl rfl));exact Sub.nil _ _ _ (zsr _) rfl))|intros;(try simp only [zql]);omega)
def eH (l:List Ln) (k:Int):Option Ln:=l.find? λx=>decide (x.key=k)
def aFN :Option Ln->PV
 |some x=> .tup [.agg x.cells,(PV.val (Value.bool (true)))]
 |none=> .tup [.agg Ln.zero.cells,(PV.val (Value.bool (false)))]
theorem arU {α:Type} {f:α->Bool} {l:List α} {i:Nat} (h:i<l.length) (hf:f l[i]=true) (hn:∀j (h:j<i) (h2:j<l.length),f l[j]=false):l.find? f=some l[i]:=
 List.find?_eq_some_iff_getElem.2 ⟨hf,i,h,rfl,λj hj=>by rw [hn j hj (by omega)];rfl⟩
theorem aES (l:List Ln) (k:Int):(∃j:Nat,∃h:j<l.length,atP l k=(((j:Nat):Int),true)/\eH l k=some l[j])\/((atP l k).2=false/\eH l k=none):=by
 unfold atP eH
 cases h:l.findIdx? λx:Ln=>decide (x.key=k) with
 |some j=>
  left
  obtain ⟨hj,hf,hn⟩:=List.findIdx?_eq_some_iff_getElem.1 h
  refine ⟨j,hj, ?_,arU hj hf λq hq h2=>by simpa using hn q hq⟩
  have e:cR (λx:Ln=>decide (x.key=k)) l=j:=by unfold cR;rw [h]
  rw [e,if_pos (by omega)]
 |none=>
  right
  have e:cR (λx:Ln=>decide (x.key=k)) l= -1:=by unfold cR;rw [h]
  rw [e,if_neg (by omega)]
  refine ⟨by split<;>rfl,List.find?_eq_none.2 λx hx=>by rw [List.findIdx?_eq_none_iff.1 h x hx];simp⟩
theorem akM (b:Bs) (k key:Int) (hll:∀d∈b,d.lines.length<100000000000):PF Tryz.prog 24 [.agg (bsC b),(PV.val (Value.int .i64 (k))),(PV.val (Value.int .i64 (key)))] (aFN (eH (aO b k) key)):=by
 cases hok:okT b k with
 |false=>
  have ho:=arN b k hok
  have ha:=agC [] key (by simp)
  rw [aEo] at ha
  have e:aO b k=[]:=by unfold aO;rw [hok];rfl
  rw [e,show eH [] key=none from rfl]
  refine aG aF Tryz.func24 (by kernel_rfl) rfl rfl rfl rfl (λst=> ?_)
  (try apply wO pk;rfl);(repeat' first|show All _;constructor|show Imp _ _;constructor|apply wC pk;rfl;rfl|apply wE pk;rfl;rfl|refine aA rfl ?_ ?_<;>intro h<;>(try simp at h)<;>try omega|(refine aC ?_;first|refine ⟨_,_,_,rfl,zwr _,zsr _, ?_,rfl⟩;(fail)|refine ⟨_,_,_,rfl,zwr _,aL ‹_›, ?_,rfl⟩;(fail)|refine ⟨_,_,_,rfl,zwf _,zsr _, ?_,rfl⟩;(rfl)|refine ⟨_,_,_,rfl,zwf _,aL ‹_›, ?_,rfl⟩;(fail)|(refine ⟨_,_,_,rfl,zwr _,zsr _, ?_,rfl⟩)|(refine ⟨_,_,_,rfl,zwf _,aL ‹_›, ?_,rfl⟩))|(apply aH;rfl;rfl;rfl;(intro _;(first|apply ho|apply ha)<;>first|assumption|omega);rotate_left;rfl;rfl))
 |true=>
  obtain ⟨q,rfl,hq⟩:∃q:Nat,k=q/\q<b.length:=by
   unfold okT at hok
   simp only [zba,zde] at hok
   exact ⟨k.toNat,by omega,by omega⟩
  have ho:=aaO b q hq
  have hlq:=hll b[q] (zgm hq)
  have hln:aO b q=b[q].lines:=by unfold aO;rw [if_pos hok];simp [hq]
  rw [hln]
  generalize hLe:b[q].lines=L at*
  have ha:=agC L key (by omega)
  rcases aES L key with ⟨j,hj,e1,e2⟩|⟨e1,e2⟩
  ·rw [e1] at ha
   rw [e2]
   refine aG aF Tryz.func24 (by kernel_rfl) rfl rfl rfl rfl (λst=> ?_)
   (try apply wO pk;rfl);(repeat' first|show All _;constructor|show Imp _ _;constructor|apply wC pk;rfl;rfl|apply wE pk;rfl;rfl|refine aA rfl ?_ ?_<;>intro h<;>(try simp at h)<;>try omega|(refine aC ?_;refine ⟨_,_,_,rfl,zwr _,zsr _, ?_,rfl⟩;try rfl)|(apply aH;rfl;rfl;rfl;(intro _;(first|apply ho|apply ha)<;>first|assumption|omega);rotate_left;rfl;rfl)|apply aN pk;(iterate 6 rfl);rotate_left;rfl;(intro hw;rfl);(intro hw;apply aI<;>omega);(intro _;rfl);rfl)
  ·rw [e1] at ha
   rw [e2]
   refine aG aF Tryz.func24 (by kernel_rfl) rfl rfl rfl rfl (λst=> ?_)
   (try apply wO pk;rfl);(repeat' first|show All _;constructor|show Imp _ _;constructor|apply wC pk;rfl;rfl|apply wE pk;rfl;rfl|refine aA rfl ?_ ?_<;>intro h<;>(try simp at h)<;>try omega|(refine aC ?_;first|refine ⟨_,_,_,rfl,zwr _,zsr _, ?_,rfl⟩;(fail)|refine ⟨_,_,_,rfl,zwr _,aL ‹_›, ?_,rfl⟩;(fail)|refine ⟨_,_,_,rfl,zwf _,zsr _, ?_,rfl⟩;(rfl)|refine ⟨_,_,_,rfl,zwf _,aL ‹_›, ?_,rfl⟩;(fail)|(refine ⟨_,_,_,rfl,zwr _,zsr _, ?_,rfl⟩)|(refine ⟨_,_,_,rfl,zwf _,aL ‹_›, ?_,rfl⟩))|(apply aH;rfl;rfl;rfl;(intro _;(first|apply ho|apply ha)<;>first|assumption|omega);rotate_left;rfl;rfl))
end Go.Proofs.YtloecjjehapblaaGreatDoor
