import Derived.Test.YtloecjjehapblaaGreatDoorOpAc
import Derived.Test.YtloecjjehapblaaGreatDoorOpAb
import Derived.Test.YtloecjjehapblaaGreatDoorAbsSort
import Derived.Test.YtloecjjehapblaaGreatDoorAbsE
import Derived.Test.YtloecjjehapblaaGreatDoorOpAa
set_option linter.unusedSimpArgs false
set_option linter.unusedVariables false
namespace Go.Proofs.YtloecjjehapblaaGreatDoor
open Go Go.Abs
attribute [local irreducible] Ev PWp
set_option maxRecDepth 10000
set_option maxHeartbeats 4000000
theorem avU (zs:List Int) {st:aJ} {id n:Nat} (hst:st id=some (.arr 3 (zs.map I1))) (hn:zs.length=n) (h62:n<4611686018427387904):
  PC Tryz.prog 183 [.vec id 1 0 n] st λ_ S=>S=upd st id (some (.arr 3 ((zs.mergeSort λx y=>decide (x<=y)).map I1))):=
 aAl (P:=Tryz.prog) aHg (by kernel_rfl) (by kernel_rfl) hst hn h62
theorem iH {st:aJ} {id id':Nat} {o:AObj} (h:upd st id (some o) id'=none):st id'=none:=by
 by_cases e:id'=id
 ·subst e;rw [aB] at h;cases h
 ·rwa [aD e] at h
theorem vJ :Tryz.prog.bytesOf 3=8:=by kernel_rfl
theorem amQ (l:List Dt) (st:aJ) (hl:l.length<1000000000000):PC Tryz.prog 255 [.seq (l.map Dt.cells)] st (LR 59 2 st (l.map Dt.cells)):=by
 refine bZ aF Tryz.func255 (by kernel_rfl) rfl rfl rfl rfl ?_
 (try apply wO pk;rfl);(repeat' first|show All _;constructor|apply wC pk;rfl;rfl|apply wE pk;rfl;rfl|refine aA rfl ?_ ?_<;>intro h<;>(try simp at h)<;>try omega|((try refine aC ?_);((refine ⟨_,_,_,rfl,zwr _,zsr _, ?_⟩;((first|exact .inr ⟨rfl,hb h,zsr _⟩|exact .inl ⟨id',by rw [zql],hid',aB _ _ _,cX hid'⟩));done)))|(apply ap0 pk (f:=Dt.cells) l 16;(iterate 10 rfl);exact λ_=>rfl;exact λ_=>rfl;exact arR;(omega);(omega);rfl;intro id' hid')|(apply aAi pk;(iterate 6 rfl);intro b hb))
theorem adM (l:List Dt) (st:aJ) (hl:l.length<1000000000000):PC Tryz.prog 255 [.seq (l.map Dt.cells)] st λp S=>∃id,p= .vec id 2 0 l.length/\st id=none/\S=upd st id (some (.arr 59 (l.map Dt.cells))):=
 vK (aaJ (amQ l st hl)) λp st' ⟨id,h1,h2,h3⟩=>⟨p,st',zwr _,zsr _,id,by rw [h1,zql],h2,h3⟩
def cE (xs:List Dt) (i:Nat) (ys:List Dt):List Dt:=xs.take i++ys++xs.drop i
theorem akB (xs:List Dt) (i:Nat) (ys:List Dt):(cE xs i ys).map Dt.cells=(xs.map Dt.cells).take i++ys.map Dt.cells++(xs.map Dt.cells).drop i:=by
 unfold cE
 rw [List.map_append,List.map_append,List.map_take,List.map_drop]
theorem pX {xs:List Dt} {i:Nat} {ys:List Dt} (hi:i<=xs.length):(cE xs i ys).length=xs.length+ys.length:=by
 unfold cE
 simp only [zla,zlt,zld];omega
def aAy (st:aJ) (id:Nat) (zs:List Dt) (r:PV) (S:aJ):Prop:=∃id',r= .vec id' 2 0 zs.length/\upd st id none id'=none/\S=upd (upd st id none) id' (some (.arr 59 (zs.map Dt.cells)))
theorem ajC (xs ys:List Dt) (i id n:Nat) (st:aJ) (hst:st id=some (.arr 59 (xs.map Dt.cells))) (hn:xs.length=n) (hi:i<=n) (hy:ys≠[]) (hl:n+ys.length<1000000000000):PC Tryz.prog 254 [.vec id 2 0 n,(PV.val (Value.int .i64 ((i:Nat)))), .seq (ys.map Dt.cells)] st (aAy st id (cE xs i ys)):=by
 obtain ⟨m,hm⟩:∃m,ys.length=m:=⟨_,rfl⟩
 have hln:(ys.map Dt.cells).length=m:=(zql _).trans hm
 have hm0:0<m:=by rw [<-hm];exact List.length_pos_iff.2 hy
 rw [hm] at hl
 have hzl:(cE xs i ys).length=n+m:=by rw [pX (by omega),hn,hm]
 have hzm:=akB xs i ys
 have hB:=arR
 refine bZ aF Tryz.func254 (by kernel_rfl) rfl rfl rfl rfl ?_
 by_cases hin:i=n
 ·subst hin
  have hz:cE xs i ys=xs++ys:=by unfold cE;rw [List.take_of_length_le (by omega),List.drop_of_length_le (by omega),List.append_nil]
  (try apply wO pk;rfl);(repeat' first|exact absurd (show ys=[] by assumption) hy|show All _;constructor|show Imp _ _;constructor|apply wC pk;rfl;rfl|apply wE pk;rfl;rfl|refine aA rfl ?_ ?_<;>intro h<;>(try simp at h)<;>try omega|(try refine aC ?_);((refine ⟨_,_,_,rfl,zwr _,zsr _, ?_⟩;(exact ⟨id',(by rw [hzl,hm]),iW hid',(by rw [hz];rfl)⟩);done))|(apply apV pk (f:=Dt.cells) ys 16;(iterate 9 rfl);(assumption);(omega);exact λ_=>rfl;exact λ_=>rfl;exact hB;(omega);(omega);rfl;intro id' hid')|apply asD pk i i;(iterate 4 rfl);rotate_left;rfl;(intro _;exact aT rfl rfl);(intro _;exact bD);(intro _;omega);(intro _;omega);rfl)
 have hlt:i<n:=by omega
 have hxl:(xs.map Dt.cells).length=n:=(zql _).trans hn
 have hX1:∀r∈xs.map Dt.cells,r.all PV.one=true:=λr hr=>by obtain ⟨a,_,rfl⟩:=List.mem_map.1 hr;rfl
 have hX3:∀r∈xs.map Dt.cells,r.length=2:=λr hr=>by obtain ⟨a,_,rfl⟩:=List.mem_map.1 hr;rfl
 have hY1:∀r∈ys.map Dt.cells,r.all PV.one=true:=λr hr=>by obtain ⟨a,_,rfl⟩:=List.mem_map.1 hr;rfl
 have hY3:∀r∈ys.map Dt.cells,r.length=2:=λr hr=>by obtain ⟨a,_,rfl⟩:=List.mem_map.1 hr;rfl
 have hj:∀k,(xs.map Dt.cells++aZ k 2).length=n+k:=λk=>by rw [zla,hxl];unfold aZ;rw [List.length_replicate]
 generalize hXe:xs.map Dt.cells=X at*
 generalize hYe:ys.map Dt.cells=Y at*
 have hYn:Y≠[]:=λe=>by rw [e] at hln;simp at hln;omega
 obtain ⟨yc,ycs,yr,hYc⟩:∃c cs rest,Y=(c::cs)::rest:=by
  cases hY0:Y with
  |nil=>exact absurd hY0 hYn
  |cons a b=>
   cases ha:a with
   |nil=>have:=hY3 a (by rw [hY0];simp);rw [ha] at this;cases this
   |cons c cs=>exact ⟨c,cs,b,rfl⟩
 refine sI 0 m (id:=id) (rows:=X) rfl hst tW hxl (by omega) (by omega) (λk id1 hk hid1=> ?_) (λid1 hid1=> ?_)
 ·have hid1:st id1=none:=hid1
  have htk:(X++aZ k 2).take i=X.take i:=List.take_append_of_le_length (by omega)
  have hgl:(X.take i++aZ (n+m-i) 2).length=n+m:=by rw [zla,zlt];unfold aZ;rw [List.length_replicate];omega
  have hg2:(aU (X.take i++aZ (n+m-i) 2) i Y).length=n+m:=by rw [dX (by omega),hgl]
  have hgr:aU (aU (X.take i++aZ (n+m-i) 2) i Y) (i+m) (X.drop i)=(cE xs i ys).map Dt.cells:=by rw [hzm];rw [<-hxl];exact sS hln (by omega)
  (try apply wO pk;rfl);(repeat' first|exact absurd (show Y=[] by assumption) hYn|(refine aC ?_;refine ⟨_,_,upd (upd st id none) id2 (some (.arr 59 ((cE xs i ys).map Dt.cells))),rfl,zwr _,nD (by rw [hgr]) hid1,id2,(by rw [hzl];congr 1;omega),lO hid2,rfl⟩)|apply wD pk [8] [];kernel_rfl;rfl;rfl|show All _;constructor|show Imp _ _;constructor|apply wC pk;rfl;rfl|apply wE pk;rfl;rfl|refine aA rfl ?_ ?_<;>intro h<;>(try simp at h)<;>try omega|(refine ahO pk (rows:=X++aZ k 2) rfl rfl rfl rfl (.inr (aB _ _ _)) (by rw [hj];omega) rfl (λc hc1 hc2=> ?_);have hc3:=hc2 (aB _ _ _);rw [hj] at hc3)|apply xD pk (j:=i) (rows:=X++aZ k 2);(iterate 4 rfl);rotate_left;rfl;rfl;exact .inr (aB _ _ _);(rw [hj];omega);exact aT rfl rfl;(rw [hj];omega)|(refine apZ pk (kq:= .i64) (kn:= .i64) (i:=i) (m:=n+m-i) (sz:=2) (rows:=X++aZ k 2) 16 rfl (congrArg (λz=>some (PV.val (.int .i64 z))) (show _=((n+m-i:Nat):Int) from by omega)) rfl (by kernel_rfl) rfl rfl rfl rfl (aB _ _ _) (by rw [hj];omega) (by rw [hj];omega) (by rw [hj];omega) hB (by omega) (by omega) (by omega) rfl (λid2 hid2=> ?_);rw [htk];have hne:id1≠id2:=(λe=>by rw [<-e] at hid2;have hid2:=(aB _ _ _).symm.trans hid2;cases hid2))|apply eQ pk (i) (n+m-i);(iterate 4 rfl);rotate_left;rfl;(intro _;exact ⟨_,aT rfl rfl,by omega⟩);(intro _;exact ⟨_,bD,by omega⟩);(intro _;omega);(intro _;omega);rfl|apply eQ pk (i+m) (n-i);(iterate 4 rfl);rotate_left;rfl;(intro _;exact ⟨_,aT rfl (show _=((i+m:Nat):Int) from by omega),by omega⟩);(intro _;exact ⟨_,bD,by omega⟩);(intro _;omega);(intro _;omega);rfl|apply eQ pk (i) (n-i);(iterate 4 rfl);rotate_left;rfl;(intro _;exact ⟨_,aT rfl rfl,by omega⟩);(intro _;exact ⟨_,bD,by omega⟩);(intro _;omega);(intro _;omega);rfl|(refine jK pk (e:=59) (sz:=2) (rows:=X.take i++aZ (n+m-i) 2) (new:=Y) (m:=Y.length) (n:=Y.length) (len:=n+m-i) rfl rfl rfl rfl rfl (aB _ _ _) (by omega) (pV aF rfl rfl rfl hY3 hY1) rfl hY3 (by omega) (by omega) rfl ?_)|(refine jK pk (e:=59) (sz:=2) (rows:=aU (X.take i++aZ (n+m-i) 2) i Y) (new:=X.drop i) (m:=n-i) (n:=n-i) (len:=n-i) rfl rfl rfl rfl rfl (aB _ _ _) (by omega) (lN (k:=k) rfl (.inr ((aD ‹_›).trans ((aD ‹_›).trans (aB _ _ _)))) hxl (by omega) tW hX1 (by omega) (by omega)) (by rw [zld];omega) (λr hr=>hX3 r (List.mem_of_mem_drop hr)) (by omega) (by omega) rfl ?_)|intros;(try simp only [zql]);omega)
 ·have hid1:st id1=none:=hid1
  have hg2:(aU (X++aZ m 2) (i+m) (X.drop i)).length=n+m:=by rw [dX (by rw [zld,hj];omega),hj]
  have hgr:aU (aU (X++aZ m 2) (i+m) (X.drop i)) i Y=(cE xs i ys).map Dt.cells:=by rw [hzm];exact tK hln (by omega)
  (try apply wO pk;rfl);(repeat' first|exact absurd (show Y=[] by assumption) hYn|(refine aC ?_;refine ⟨_,_,upd (upd st id none) id1 (some (.arr 59 ((cE xs i ys).map Dt.cells))),rfl,zwr _,nC (by rw [hgr]),id1,(by rw [hzl]),iW hid1,rfl⟩)|apply wD pk [8] [];kernel_rfl;rfl;rfl|show All _;constructor|show Imp _ _;constructor|apply wC pk;rfl;rfl|apply wE pk;rfl;rfl|refine aA rfl ?_ ?_<;>intro h<;>(try simp at h)<;>try omega|apply eQ pk (i) (n-i);(iterate 4 rfl);rotate_left;rfl;(intro _;exact ⟨_,aT rfl rfl,by omega⟩);(intro _;exact ⟨_,bD,by omega⟩);(intro _;omega);(intro _;omega);rfl|apply eQ pk (i) (n+m-i);(iterate 4 rfl);rotate_left;rfl;(intro _;exact ⟨_,aT rfl rfl,by omega⟩);(intro _;exact ⟨_,bD,by omega⟩);(intro _;omega);(intro _;omega);rfl|apply eQ pk (i+m) (n-i);(iterate 4 rfl);rotate_left;rfl;(intro _;exact ⟨_,aT rfl (show _=((i+m:Nat):Int) from by omega),by omega⟩);(intro _;exact ⟨_,bD,by omega⟩);(intro _;omega);(intro _;omega);rfl|(refine ahO pk (rows:=X++aZ m 2) rfl rfl rfl rfl (.inl (aB _ _ _)) (by rw [hj];omega) rfl (λc hc1 hc2=> ?_);rw [hj] at hc1)|apply xD pk (j:=n+m) (rows:=X++aZ m 2);(iterate 4 rfl);rotate_left;rfl;rfl;exact .inl (aB _ _ _);(rw [hj];omega);exact aT rfl (show _=((n+m:Nat):Int) from by omega);(rw [hj];omega)|(refine ovA pk (w:=true) (tS:=37) (tR:=4) (off:=i+m) (len:=n-i) (e:=59) (sz:=2) (rows:=X++aZ m 2) rfl rfl Tryz.func323 (by kernel_rfl) (by kernel_rfl) (by kernel_rfl) (by kernel_rfl) rfl rfl rfl hYc rfl (.inl (aB _ _ _)) (by rw [hj];omega) tW (by omega) ?_ rfl rfl ?_;rotate_left)|(refine jK pk (e:=59) (sz:=2) (rows:=X++aZ m 2) (new:=X.drop i) (m:=n+m-i) (n:=n-i) (len:=n-i) rfl rfl rfl rfl rfl (aB _ _ _) (by rw [hj];omega) (lN (k:=m) rfl (.inl (aB _ _ _)) hxl (by omega) tW hX1 (by omega) (by omega)) (by rw [zld];omega) (λr hr=>hX3 r (List.mem_of_mem_drop hr)) (by omega) (by omega) rfl ?_)|(refine jK pk (e:=59) (sz:=2) (rows:=aU (X++aZ m 2) (i+m) (X.drop i)) (new:=Y) (m:=Y.length) (n:=Y.length) (len:=n+m-i) rfl rfl rfl rfl rfl (aB _ _ _) (by omega) (pV aF rfl rfl rfl hY3 hY1) rfl hY3 (by omega) (by omega) rfl ?_)|intros;(try simp only [zql]);omega)
theorem aDs (xs ys:List Dt) (i id n:Nat) (z:Int) (st:aJ) (hst:st id=some (.arr 59 (xs.map Dt.cells))) (hn:xs.length=n) (hz:z=((i:Nat):Int)) (hi:i<=n) (hy:ys≠[]) (hl:n+ys.length<1000000000000):PC Tryz.prog 254 [.vec id 2 0 n,(PV.val (Value.int .i64 (z))), .seq (ys.map Dt.cells)] st (aAy st id (cE xs i ys)):=by
 subst hz;exact ajC xs ys i id n st hst hn hi hy hl
theorem gQ {st:aJ} {id id2:Nat} {o:Option AObj} (hid:st id=none) (h:upd (upd st id o) id none id2=none):st id2=none:=by
 by_cases e:id2=id
 ·rw [e];exact hid
 ·rwa [aD e,aD e] at h
theorem mC {st:aJ} {id id2:Nat} {o b:Option AObj} (hid:st id=none):StSub (upd st id2 b) (upd (upd (upd st id o) id none) id2 b):=λj=>by
 by_cases e:j=id2
 ·subst e;right;rw [aB,aB]
 ·rw [aD e,aD e]
  by_cases e2:j=id
  ·subst e2;left;exact hid
  ·right;rw [aD e2,aD e2]
theorem ahR (x d:Dt):PF Tryz.prog 253 [.agg x.cells, .rp d.cells] (PV.val (Value.bool (bG x d))):=by
 refine aG aF Tryz.func253 (by kernel_rfl) rfl rfl rfl rfl (λst=> ?_)
 (try apply wO pk;rfl);(repeat' first|show All _;constructor|show Imp _ _;constructor|apply wE pk;rfl;rfl|(refine aC ?_;refine ⟨_,_,_,rfl,zwr _,zsr _, ?_,rfl⟩;try first|rfl|(rw [<-aqF]);done)|(apply aH;rfl;rfl;rfl;(intro _;apply (aiX x d)<;>first|assumption|omega);rotate_left;rfl;rfl))
def fO (l:List Dt) (d:Dt):Nat:=(l.findIdx? λx=>bG x d).getD l.length
theorem alL (l:List Dt) (d:Dt):fO l d<=l.length:=by
 unfold fO
 cases h:l.findIdx? λx=>bG x d with
 |none=>exact Nat.le_refl _
 |some k=>exact Nat.le_of_lt (List.findIdx?_eq_some_iff_getElem.1 h).1
def dD (a:Ln) (d:Dt):Ln:=if d∈a.by_ then a else {a with by_:=cE a.by_ (fO a.by_ d) [d]}
theorem aBJ (a:Ln) (d:Dt) (st:aJ) (hl:a.by_.length<100000000000):PC Tryz.prog 160 [.agg a.cells, .agg d.cells] st λr S=>(r= .agg a.cells/\S=st/\d∈a.by_)\/(d∉a.by_/\∃id,r= .agg [(PV.val (Value.int .i64 (a.key))), .seq (a.cells_.map Cl.cells), .vec id 2 0 (cE a.by_ (fO a.by_ d) [d]).length]/\st id=none/\S=upd st id (some (.arr 59 ((cE a.by_ (fO a.by_ d) [d]).map Dt.cells)))):=by
 have hc:=abW a.by_ d (by omega)
 have hi:=auF 253 [.rp d.cells] (λx=>bG x d) a.by_ (by omega) λx=>ahR x d
 have hmem:(a.by_.any λy=>decide (d=y))=decide (d∈a.by_):=by
  rw [Bool.eq_iff_iff,List.any_eq_true,zde]
  constructor
  ·rintro ⟨y,hy,e⟩;rw [of_decide_eq_true e];exact hy
  ·exact λh=>⟨d,h,decide_eq_true rfl⟩
 rw [hmem] at hc
 by_cases hd:d∈a.by_
 ·rw [decide_eq_true hd] at hc
  refine bZ aF Tryz.func160 (by kernel_rfl) rfl rfl rfl rfl ?_
  (try apply wO pk;rfl);(repeat' first|show All _;constructor|show Imp _ _;constructor|apply wC pk;rfl;rfl|apply wE pk;rfl;rfl|refine aA rfl ?_ ?_<;>intro h<;>(try simp at h)<;>try omega|(try refine aC ?_);((refine ⟨_,_,_,rfl,zwr _,zsr _, ?_⟩;(exact .inl ⟨rfl,rfl,hd⟩);done))|(apply aH;rfl;rfl;rfl;(intro _;apply hc<;>first|assumption|omega);rotate_left;rfl;rfl))
 rw [decide_eq_false hd] at hc
 obtain ⟨k,hk⟩:∃k,fO a.by_ d=k:=⟨_,rfl⟩
 have hkl:=alL a.by_ d
 rw [hk] at hkl⊢
 have hlen:(cE a.by_ k [d]).length=a.by_.length+1:=pX hkl
 rcases Nat.lt_or_ge k a.by_.length with hlt|hge
 ·have hii:cR (λx=>bG x d) a.by_=((k:Nat):Int):=by
   unfold cR
   unfold fO at hk
   cases h:a.by_.findIdx? λx=>bG x d with
   |none=>rw [h] at hk;simp at hk;omega
   |some j=>rw [h] at hk;simp at hk;simp [hk]
  rw [hii] at hi
  refine bZ aF Tryz.func160 (by kernel_rfl) rfl rfl rfl rfl ?_
  (try apply wO pk;rfl);(repeat' first|refine aC ?_;exact ⟨_,_,upd st id2 (some (.arr 59 ((cE a.by_ k [d]).map Dt.cells))),rfl,zwr _,mC hid, .inr ⟨hd,id2,rfl,gQ hid hid2,rfl⟩⟩|apply wDO pk [0,1,3,4,5,2,6,7,8] [2,6] [] [5,6] [];rfl;rfl;kernel_rfl;rfl;rfl|show All _;constructor|show Imp _ _;constructor|apply wC pk;rfl;rfl|apply wE pk;rfl;rfl|refine aA rfl ?_ ?_<;>intro h<;>(try simp at h)<;>try omega|(apply aH;rfl;rfl;rfl;(intro _;(first|apply hc|apply hi)<;>first|assumption|omega);rotate_left;rfl;rfl)|(apply cB;rfl;rfl;(apply (adM a.by_ _ (by omega))<;>first|exact aB _ _ _|assumption|omega|(fail));rfl;rfl;rfl;intro _ st' hR;obtain ⟨id,rfl,hid,rfl⟩:=hR)|(apply cB;rfl;rfl;(apply (ajC a.by_ [d] k id a.by_.length _ (aB _ _ _) rfl (by omega) (by simp) (by simp;omega))<;>first|exact aB _ _ _|assumption|omega|(fail));rfl;rfl;rfl;intro _ st' hR;obtain ⟨id2,rfl,hid2,rfl⟩:=hR)|apply bC 3;rfl;rfl)
 ·obtain rfl:k=a.by_.length:=by omega
  have hii:cR (λx=>bG x d) a.by_= -1:=by
   unfold cR
   unfold fO at hk
   cases h:a.by_.findIdx? λx=>bG x d with
   |none=>rfl
   |some j=>
    have:=(List.findIdx?_eq_some_iff_getElem.1 h).1
    rw [h] at hk;simp at hk;omega
  rw [hii] at hi
  refine bZ aF Tryz.func160 (by kernel_rfl) rfl rfl rfl rfl ?_
  (try apply wO pk;rfl);(repeat' first|refine aC ?_;exact ⟨_,_,upd st id2 (some (.arr 59 ((cE a.by_ a.by_.length [d]).map Dt.cells))),rfl,zwr _,mC hid, .inr ⟨hd,id2,rfl,gQ hid hid2,rfl⟩⟩|apply wDO pk [0,1,3,4,5,2,6,7,8] [2,6] [] [5,6] [];rfl;rfl;kernel_rfl;rfl;rfl|show All _;constructor|show Imp _ _;constructor|apply wC pk;rfl;rfl|apply wE pk;rfl;rfl|refine aA rfl ?_ ?_<;>intro h<;>(try simp at h)<;>try omega|(apply aH;rfl;rfl;rfl;(intro _;(first|apply hc|apply hi)<;>first|assumption|omega);rotate_left;rfl;rfl)|(apply cB;rfl;rfl;(apply (adM a.by_ _ (by omega))<;>first|exact aB _ _ _|assumption|omega|(fail));rfl;rfl;rfl;intro _ st' hR;obtain ⟨id,rfl,hid,rfl⟩:=hR)|(apply cB;rfl;rfl;(apply (aDs a.by_ [d] a.by_.length id a.by_.length _ _ (aB _ _ _) rfl (by simp) (by omega) (by simp) (by simp;omega))<;>first|exact aB _ _ _|assumption|omega|(fail));rfl;rfl;rfl;intro _ st' hR;obtain ⟨id2,rfl,hid2,rfl⟩:=hR)|apply bC 3;rfl;rfl)
theorem aaA (a:Ln) (d:Dt) (hl:a.by_.length<100000000000):PF Tryz.prog 160 [.agg a.cells, .agg d.cells] (.agg (dD a d).cells):=λst=>
 gL (sz:=2) (aBJ a d st hl) λp st' h=>by
  rcases h with ⟨rfl,rfl,hd⟩|⟨hd,id,rfl,h3,rfl⟩
  ·exact .inr ⟨_,_,zwr _,zsr _,by rw [dD,if_pos hd],rfl⟩
  ·refine .inl ⟨id,59,(cE a.by_ (fO a.by_ d) [d]).map Dt.cells,_,st,aB _ _ _,tW, .agg (.cons .refl (.cons .refl (.cons ?_ .nil))),cX h3,by rw [dD,if_neg hd];rfl,rfl⟩
   have e:((cE a.by_ (fO a.by_ d) [d]).map Dt.cells).length=(cE a.by_ (fO a.by_ d) [d]).length:=zql _
   rw [<-e];exact .all
theorem amA (l:List Ln) (st:aJ) (hl:l.length<1000000000000):PC Tryz.prog 234 [.seq (l.map Ln.cells)] st (LR 67 3 st (l.map Ln.cells)):=by
 refine bZ aF Tryz.func234 (by kernel_rfl) rfl rfl rfl rfl ?_
 (try apply wO pk;rfl);(repeat' first|show All _;constructor|apply wC pk;rfl;rfl|apply wE pk;rfl;rfl|refine aA rfl ?_ ?_<;>intro h<;>(try simp at h)<;>try omega|((try refine aC ?_);((refine ⟨_,_,_,rfl,zwr _,zsr _, ?_⟩;((first|exact .inr ⟨rfl,hb h,zsr _⟩|exact .inl ⟨id',by rw [zql],hid',aB _ _ _,cX hid'⟩));done)))|(apply ap0 pk (f:=Ln.cells) l 56;(iterate 10 rfl);exact λ_=>rfl;exact λ_=>rfl;exact afG;(omega);(omega);rfl;intro id' hid')|(apply aAi pk;(iterate 6 rfl);intro b hb))
theorem adN (l:List Ln) (st:aJ) (hl:l.length<1000000000000):PC Tryz.prog 234 [.seq (l.map Ln.cells)] st λp S=>∃id,p= .vec id 3 0 l.length/\st id=none/\S=upd st id (some (.arr 67 (l.map Ln.cells))):=
 vK (aaJ (amA l st hl)) λp st' ⟨id,h1,h2,h3⟩=>⟨p,st',zwr _,zsr _,id,by rw [h1,zql],h2,h3⟩
theorem alV (l:List Da) (st:aJ) (hl:l.length<1000000000000):PC Tryz.prog 308 [.seq (l.map Da.cells)] st (LR 86 1 st (l.map Da.cells)):=by
 refine bZ aF Tryz.func308 (by kernel_rfl) rfl rfl rfl rfl ?_
 (try apply wO pk;rfl);(repeat' first|show All _;constructor|apply wC pk;rfl;rfl|apply wE pk;rfl;rfl|refine aA rfl ?_ ?_<;>intro h<;>(try simp at h)<;>try omega|((try refine aC ?_);((refine ⟨_,_,_,rfl,zwr _,zsr _, ?_⟩;((first|exact .inr ⟨rfl,hb h,zsr _⟩|exact .inl ⟨id',by rw [zql],hid',aB _ _ _,cX hid'⟩));done)))|(apply ap0 pk (f:=Da.cells) l 24;(iterate 10 rfl);exact λ_=>rfl;exact λ_=>rfl;exact afD;(omega);(omega);rfl;intro id' hid')|(apply aAi pk;(iterate 6 rfl);intro b hb))
theorem awX (l:List Da) (st:aJ) (hl:l.length<1000000000000):PC Tryz.prog 308 [.seq (l.map Da.cells)] st λp S=>∃id,p= .vec id 1 0 l.length/\st id=none/\S=upd st id (some (.arr 86 (l.map Da.cells))):=
 vK (aaJ (alV l st hl)) λp st' ⟨id,h1,h2,h3⟩=>⟨p,st',zwr _,zsr _,id,by rw [h1,zql],h2,h3⟩
def eF (xs:List Ln) (i:Nat) (ys:List Ln):List Ln:=xs.take i++ys++xs.drop i
theorem ajT (xs:List Ln) (i:Nat) (ys:List Ln):(eF xs i ys).map Ln.cells=(xs.map Ln.cells).take i++ys.map Ln.cells++(xs.map Ln.cells).drop i:=by
 unfold eF
 rw [List.map_append,List.map_append,List.map_take,List.map_drop]
theorem wS {xs:List Ln} {i:Nat} {ys:List Ln} (hi:i<=xs.length):(eF xs i ys).length=xs.length+ys.length:=by
 unfold eF
 simp only [zla,zlt,zld];omega
def aFA (st:aJ) (id:Nat) (zs:List Ln) (r:PV) (S:aJ):Prop:=∃id',r= .vec id' 3 0 zs.length/\upd st id none id'=none/\S=upd (upd st id none) id' (some (.arr 67 (zs.map Ln.cells)))
theorem azG (xs ys:List Ln) (i id n:Nat) (st:aJ) (hst:st id=some (.arr 67 (xs.map Ln.cells))) (hn:xs.length=n) (hi:i<=n) (hy:ys≠[]) (hl:n+ys.length<1000000000000):PC Tryz.prog 235 [.vec id 3 0 n,(PV.val (Value.int .i64 ((i:Nat)))), .seq (ys.map Ln.cells)] st (aFA st id (eF xs i ys)):=by
 obtain ⟨m,hm⟩:∃m,ys.length=m:=⟨_,rfl⟩
 have hln:(ys.map Ln.cells).length=m:=(zql _).trans hm
 have hm0:0<m:=by rw [<-hm];exact List.length_pos_iff.2 hy
 rw [hm] at hl
 have hzl:(eF xs i ys).length=n+m:=by rw [wS (by omega),hn,hm]
 have hzm:=ajT xs i ys
 have hB:=afG
 refine bZ aF Tryz.func235 (by kernel_rfl) rfl rfl rfl rfl ?_
 by_cases hin:i=n
 ·subst hin
  have hz:eF xs i ys=xs++ys:=by unfold eF;rw [List.take_of_length_le (by omega),List.drop_of_length_le (by omega),List.append_nil]
  (try apply wO pk;rfl);(repeat' first|exact absurd (show ys=[] by assumption) hy|show All _;constructor|show Imp _ _;constructor|apply wC pk;rfl;rfl|apply wE pk;rfl;rfl|refine aA rfl ?_ ?_<;>intro h<;>(try simp at h)<;>try omega|(try refine aC ?_);((refine ⟨_,_,_,rfl,zwr _,zsr _, ?_⟩;(exact ⟨id',(by rw [hzl,hm]),iW hid',(by rw [hz];rfl)⟩);done))|(apply apV pk (f:=Ln.cells) ys 56;(iterate 9 rfl);(assumption);(omega);exact λ_=>rfl;exact λ_=>rfl;exact hB;(omega);(omega);rfl;intro id' hid')|apply asD pk i i;(iterate 4 rfl);rotate_left;rfl;(intro _;exact aT rfl rfl);(intro _;exact bD);(intro _;omega);(intro _;omega);rfl)
 have hlt:i<n:=by omega
 have hxl:(xs.map Ln.cells).length=n:=(zql _).trans hn
 have hX1:∀r∈xs.map Ln.cells,r.all PV.one=true:=λr hr=>by obtain ⟨a,_,rfl⟩:=List.mem_map.1 hr;rfl
 have hX3:∀r∈xs.map Ln.cells,r.length=3:=λr hr=>by obtain ⟨a,_,rfl⟩:=List.mem_map.1 hr;rfl
 have hY1:∀r∈ys.map Ln.cells,r.all PV.one=true:=λr hr=>by obtain ⟨a,_,rfl⟩:=List.mem_map.1 hr;rfl
 have hY3:∀r∈ys.map Ln.cells,r.length=3:=λr hr=>by obtain ⟨a,_,rfl⟩:=List.mem_map.1 hr;rfl
 have hj:∀k,(xs.map Ln.cells++aZ k 3).length=n+k:=λk=>by rw [zla,hxl];unfold aZ;rw [List.length_replicate]
 generalize hXe:xs.map Ln.cells=X at*
 generalize hYe:ys.map Ln.cells=Y at*
 have hYn:Y≠[]:=λe=>by rw [e] at hln;simp at hln;omega
 obtain ⟨yc,ycs,yr,hYc⟩:∃c cs rest,Y=(c::cs)::rest:=by
  cases hY0:Y with
  |nil=>exact absurd hY0 hYn
  |cons a b=>
   cases ha:a with
   |nil=>have:=hY3 a (by rw [hY0];simp);rw [ha] at this;cases this
   |cons c cs=>exact ⟨c,cs,b,rfl⟩
 refine sI 0 m (id:=id) (rows:=X) rfl hst qE hxl (by omega) (by omega) (λk id1 hk hid1=> ?_) (λid1 hid1=> ?_)
 ·have hid1:st id1=none:=hid1
  have htk:(X++aZ k 3).take i=X.take i:=List.take_append_of_le_length (by omega)
  have hgl:(X.take i++aZ (n+m-i) 3).length=n+m:=by rw [zla,zlt];unfold aZ;rw [List.length_replicate];omega
  have hg2:(aU (X.take i++aZ (n+m-i) 3) i Y).length=n+m:=by rw [dX (by omega),hgl]
  have hgr:aU (aU (X.take i++aZ (n+m-i) 3) i Y) (i+m) (X.drop i)=(eF xs i ys).map Ln.cells:=by rw [hzm];rw [<-hxl];exact sS hln (by omega)
  (try apply wO pk;rfl);(repeat' first|exact absurd (show Y=[] by assumption) hYn|(refine aC ?_;refine ⟨_,_,upd (upd st id none) id2 (some (.arr 67 ((eF xs i ys).map Ln.cells))),rfl,zwr _,nD (by rw [hgr]) hid1,id2,(by rw [hzl];congr 1;omega),lO hid2,rfl⟩)|apply wD pk [8] [];kernel_rfl;rfl;rfl|show All _;constructor|show Imp _ _;constructor|apply wC pk;rfl;rfl|apply wE pk;rfl;rfl|refine aA rfl ?_ ?_<;>intro h<;>(try simp at h)<;>try omega|(refine ahO pk (rows:=X++aZ k 3) rfl rfl rfl rfl (.inr (aB _ _ _)) (by rw [hj];omega) rfl (λc hc1 hc2=> ?_);have hc3:=hc2 (aB _ _ _);rw [hj] at hc3)|apply xD pk (j:=i) (rows:=X++aZ k 3);(iterate 4 rfl);rotate_left;rfl;rfl;exact .inr (aB _ _ _);(rw [hj];omega);exact aT rfl rfl;(rw [hj];omega)|(refine apZ pk (kq:= .i64) (kn:= .i64) (i:=i) (m:=n+m-i) (sz:=3) (rows:=X++aZ k 3) 56 rfl (congrArg (λz=>some (PV.val (.int .i64 z))) (show _=((n+m-i:Nat):Int) from by omega)) rfl (by kernel_rfl) rfl rfl rfl rfl (aB _ _ _) (by rw [hj];omega) (by rw [hj];omega) (by rw [hj];omega) hB (by omega) (by omega) (by omega) rfl (λid2 hid2=> ?_);rw [htk];have hne:id1≠id2:=(λe=>by rw [<-e] at hid2;have hid2:=(aB _ _ _).symm.trans hid2;cases hid2))|apply eQ pk (i) (n+m-i);(iterate 4 rfl);rotate_left;rfl;(intro _;exact ⟨_,aT rfl rfl,by omega⟩);(intro _;exact ⟨_,bD,by omega⟩);(intro _;omega);(intro _;omega);rfl|apply eQ pk (i+m) (n-i);(iterate 4 rfl);rotate_left;rfl;(intro _;exact ⟨_,aT rfl (show _=((i+m:Nat):Int) from by omega),by omega⟩);(intro _;exact ⟨_,bD,by omega⟩);(intro _;omega);(intro _;omega);rfl|apply eQ pk (i) (n-i);(iterate 4 rfl);rotate_left;rfl;(intro _;exact ⟨_,aT rfl rfl,by omega⟩);(intro _;exact ⟨_,bD,by omega⟩);(intro _;omega);(intro _;omega);rfl|(refine jK pk (e:=67) (sz:=3) (rows:=X.take i++aZ (n+m-i) 3) (new:=Y) (m:=Y.length) (n:=Y.length) (len:=n+m-i) rfl rfl rfl rfl rfl (aB _ _ _) (by omega) (pV aF rfl rfl rfl hY3 hY1) rfl hY3 (by omega) (by omega) rfl ?_)|(refine jK pk (e:=67) (sz:=3) (rows:=aU (X.take i++aZ (n+m-i) 3) i Y) (new:=X.drop i) (m:=n-i) (n:=n-i) (len:=n-i) rfl rfl rfl rfl rfl (aB _ _ _) (by omega) (lN (k:=k) rfl (.inr ((aD ‹_›).trans ((aD ‹_›).trans (aB _ _ _)))) hxl (by omega) qE hX1 (by omega) (by omega)) (by rw [zld];omega) (λr hr=>hX3 r (List.mem_of_mem_drop hr)) (by omega) (by omega) rfl ?_)|intros;(try simp only [zql]);omega)
 ·have hid1:st id1=none:=hid1
  have hg2:(aU (X++aZ m 3) (i+m) (X.drop i)).length=n+m:=by rw [dX (by rw [zld,hj];omega),hj]
  have hgr:aU (aU (X++aZ m 3) (i+m) (X.drop i)) i Y=(eF xs i ys).map Ln.cells:=by rw [hzm];exact tK hln (by omega)
  (try apply wO pk;rfl);(repeat' first|exact absurd (show Y=[] by assumption) hYn|(refine aC ?_;refine ⟨_,_,upd (upd st id none) id1 (some (.arr 67 ((eF xs i ys).map Ln.cells))),rfl,zwr _,nC (by rw [hgr]),id1,(by rw [hzl]),iW hid1,rfl⟩)|apply wD pk [8] [];kernel_rfl;rfl;rfl|show All _;constructor|show Imp _ _;constructor|apply wC pk;rfl;rfl|apply wE pk;rfl;rfl|refine aA rfl ?_ ?_<;>intro h<;>(try simp at h)<;>try omega|apply eQ pk (i) (n-i);(iterate 4 rfl);rotate_left;rfl;(intro _;exact ⟨_,aT rfl rfl,by omega⟩);(intro _;exact ⟨_,bD,by omega⟩);(intro _;omega);(intro _;omega);rfl|apply eQ pk (i) (n+m-i);(iterate 4 rfl);rotate_left;rfl;(intro _;exact ⟨_,aT rfl rfl,by omega⟩);(intro _;exact ⟨_,bD,by omega⟩);(intro _;omega);(intro _;omega);rfl|apply eQ pk (i+m) (n-i);(iterate 4 rfl);rotate_left;rfl;(intro _;exact ⟨_,aT rfl (show _=((i+m:Nat):Int) from by omega),by omega⟩);(intro _;exact ⟨_,bD,by omega⟩);(intro _;omega);(intro _;omega);rfl|(refine ahO pk (rows:=X++aZ m 3) rfl rfl rfl rfl (.inl (aB _ _ _)) (by rw [hj];omega) rfl (λc hc1 hc2=> ?_);rw [hj] at hc1)|apply xD pk (j:=n+m) (rows:=X++aZ m 3);(iterate 4 rfl);rotate_left;rfl;rfl;exact .inl (aB _ _ _);(rw [hj];omega);exact aT rfl (show _=((n+m:Nat):Int) from by omega);(rw [hj];omega)|(refine ovA pk (w:=true) (tS:=84) (tR:=4) (off:=i+m) (len:=n-i) (e:=67) (sz:=3) (rows:=X++aZ m 3) rfl rfl Tryz.func306 (by kernel_rfl) (by kernel_rfl) (by kernel_rfl) (by kernel_rfl) rfl rfl rfl hYc rfl (.inl (aB _ _ _)) (by rw [hj];omega) qE (by omega) ?_ rfl rfl ?_;rotate_left)|(refine jK pk (e:=67) (sz:=3) (rows:=X++aZ m 3) (new:=X.drop i) (m:=n+m-i) (n:=n-i) (len:=n-i) rfl rfl rfl rfl rfl (aB _ _ _) (by rw [hj];omega) (lN (k:=m) rfl (.inl (aB _ _ _)) hxl (by omega) qE hX1 (by omega) (by omega)) (by rw [zld];omega) (λr hr=>hX3 r (List.mem_of_mem_drop hr)) (by omega) (by omega) rfl ?_)|(refine jK pk (e:=67) (sz:=3) (rows:=aU (X++aZ m 3) (i+m) (X.drop i)) (new:=Y) (m:=Y.length) (n:=Y.length) (len:=n+m-i) rfl rfl rfl rfl rfl (aB _ _ _) (by omega) (pV aF rfl rfl rfl hY3 hY1) rfl hY3 (by omega) (by omega) rfl ?_)|intros;(try simp only [zql]);omega)
end Go.Proofs.YtloecjjehapblaaGreatDoor
