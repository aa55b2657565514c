import Derived.Test.YtloecjjehapblaaGreatDoorOkAa
import Derived.Test.YtloecjjehapblaaGreatDoorOkAc
set_option linter.unusedSimpArgs false
set_option linter.unusedVariables false
namespace Go.Proofs.YtloecjjehapblaaGreatDoor
open Go Go.Abs
attribute [local irreducible] Ev PWp
set_option maxRecDepth 10000
set_option maxHeartbeats 4000000
theorem amE (l:List Ln) (st:aI) (hl:l.length<1000000000000):PC Tryz.prog 234 [.seq (l.map Ln.cells)] st (LR 67 3 st (l.map Ln.cells)):=by
 refine cB aF Tryz.func234 (by kernel_rfl) rfl rfl rfl rfl ?_
 (try apply wO pk;rfl);(repeat' first|show Cn _;constructor|apply wC pk;rfl;rfl|apply wE pk;rfl;rfl|refine aB rfl ?_ ?_<;>intro h<;>(try simp at h)<;>try omega|((try refine aC ?_);((refine ⟨_,_,_,rfl,zwr _,zsr _, ?_⟩;((first|exact .inr ⟨rfl,hb h,zsr _⟩|exact .inl ⟨id',by rw [zql],hid',aA _ _ _,cY hid'⟩));done)))|(apply ap0 pk (f:=Ln.cells) l 56;(iterate 10 rfl);exact λ_=>rfl;exact λ_=>rfl;exact aeZ;(omega);(omega);rfl;intro id' hid')|(apply aAe pk;(iterate 6 rfl);intro b hb))
theorem adJ (l:List Ln) (st:aI) (hl:l.length<1000000000000):PC Tryz.prog 234 [.seq (l.map Ln.cells)] st λp S=>∃id,p= .vec id 3 0 l.length/\st id=none/\S=upd st id (some (.arr 67 (l.map Ln.cells))):=
 vS (aaI (amE l st hl)) λp st' ⟨id,h1,h2,h3⟩=>⟨p,st',zwr _,zsr _,id,by rw [h1,zql],h2,h3⟩
theorem alW (l:List Da) (st:aI) (hl:l.length<1000000000000):PC Tryz.prog 308 [.seq (l.map Da.cells)] st (LR 86 1 st (l.map Da.cells)):=by
 refine cB aF Tryz.func308 (by kernel_rfl) rfl rfl rfl rfl ?_
 (try apply wO pk;rfl);(repeat' first|show Cn _;constructor|apply wC pk;rfl;rfl|apply wE pk;rfl;rfl|refine aB rfl ?_ ?_<;>intro h<;>(try simp at h)<;>try omega|((try refine aC ?_);((refine ⟨_,_,_,rfl,zwr _,zsr _, ?_⟩;((first|exact .inr ⟨rfl,hb h,zsr _⟩|exact .inl ⟨id',by rw [zql],hid',aA _ _ _,cY hid'⟩));done)))|(apply ap0 pk (f:=Da.cells) l 24;(iterate 10 rfl);exact λ_=>rfl;exact λ_=>rfl;exact aeW;(omega);(omega);rfl;intro id' hid')|(apply aAe pk;(iterate 6 rfl);intro b hb))
theorem awW (l:List Da) (st:aI) (hl:l.length<1000000000000):PC Tryz.prog 308 [.seq (l.map Da.cells)] st λp S=>∃id,p= .vec id 1 0 l.length/\st id=none/\S=upd st id (some (.arr 86 (l.map Da.cells))):=
 vS (aaI (alW l st hl)) λp st' ⟨id,h1,h2,h3⟩=>⟨p,st',zwr _,zsr _,id,by rw [h1,zql],h2,h3⟩
def dW (xs:List Ln) (i:Nat) (ys:List Ln):List Ln:=xs.take i++ys++xs.drop i
theorem ajS (xs:List Ln) (i:Nat) (ys:List Ln):(dW xs i ys).map Ln.cells=(xs.map Ln.cells).take i++ys.map Ln.cells++(xs.map Ln.cells).drop i:=by
 unfold dW
 rw [List.map_append,List.map_append,List.map_take,List.map_drop]
theorem wZ {xs:List Ln} {i:Nat} {ys:List Ln} (hi:i<=xs.length):(dW xs i ys).length=xs.length+ys.length:=by
 unfold dW
 simp only [zla,zlt,zld];omega
def aFB (st:aI) (id:Nat) (zs:List Ln) (r:PV) (S:aI):Prop:=∃id',r= .vec id' 3 0 zs.length/\upd st id none id'=none/\S=upd (upd st id none) id' (some (.arr 67 (zs.map Ln.cells)))
theorem azF (xs ys:List Ln) (i id n:Nat) (st:aI) (hst:st id=some (.arr 67 (xs.map Ln.cells))) (hn:xs.length=n) (hi:i<=n) (hy:ys≠[]) (hl:n+ys.length<1000000000000):PC Tryz.prog 235 [.vec id 3 0 n,(.val (.int .i64 ((i:Nat)))), .seq (ys.map Ln.cells)] st (aFB st id (dW xs i ys)):=by
 obtain ⟨m,hm⟩:∃m,ys.length=m:=⟨_,rfl⟩
 have hln:(ys.map Ln.cells).length=m:=(zql _).trans hm
 have hm0:0<m:=by rw [<-hm];exact List.length_pos_iff.2 hy
 rw [hm] at hl
 have hzl:(dW xs i ys).length=n+m:=by rw [wZ (by omega),hn,hm]
 have hzm:=ajS xs i ys
 have hB:=aeZ
 refine cB aF Tryz.func235 (by kernel_rfl) rfl rfl rfl rfl ?_
 by_cases hin:i=n
 ·subst hin
  have hz:dW xs i ys=xs++ys:=by unfold dW;rw [ztl (by omega),List.drop_of_length_le (by omega),List.append_nil]
  (try apply wO pk;rfl);(repeat' first|exact absurd (show ys=[] by assumption) hy|show Cn _;constructor|apply wC pk;rfl;rfl|apply wE pk;rfl;rfl|refine aB rfl ?_ ?_<;>intro h<;>(try simp at h)<;>try omega|(try refine aC ?_);((refine ⟨_,_,_,rfl,zwr _,zsr _, ?_⟩;(exact ⟨id',(by rw [hzl,hm]),jB hid',(by rw [hz];rfl)⟩);done))|(apply apV pk (f:=Ln.cells) ys 56;(iterate 9 rfl);(assumption);(omega);exact λ_=>rfl;exact λ_=>rfl;exact hB;(omega);(omega);rfl;intro id' hid')|apply asD pk i i;(iterate 4 rfl);rotate_left;rfl;(intro _;exact aU rfl rfl);(intro _;exact bE);(intro _;omega);(intro _;omega);rfl)
 have hlt:i<n:=by omega
 have hxl:(xs.map Ln.cells).length=n:=(zql _).trans hn
 have hX1:∀r∈xs.map Ln.cells,r.all PV.one=true:=λr hr=>by obtain ⟨a,_,rfl⟩:=List.mem_map.1 hr;rfl
 have hX3:∀r∈xs.map Ln.cells,r.length=3:=λr hr=>by obtain ⟨a,_,rfl⟩:=List.mem_map.1 hr;rfl
 have hY1:∀r∈ys.map Ln.cells,r.all PV.one=true:=λr hr=>by obtain ⟨a,_,rfl⟩:=List.mem_map.1 hr;rfl
 have hY3:∀r∈ys.map Ln.cells,r.length=3:=λr hr=>by obtain ⟨a,_,rfl⟩:=List.mem_map.1 hr;rfl
 have hj:∀k,(xs.map Ln.cells++aZ k 3).length=n+k:=λk=>by rw [zla,hxl];unfold aZ;rw [List.length_replicate]
 generalize hXe:xs.map Ln.cells=X at*
 generalize hYe:ys.map Ln.cells=Y at*
 have hYn:Y≠[]:=λe=>by rw [e] at hln;simp at hln;omega
 obtain ⟨yc,ycs,yr,hYc⟩:∃c cs rest,Y=(c::cs)::rest:=by
  cases hY0:Y with
  |nil=>exact absurd hY0 hYn
  |cons a b=>
   cases ha:a with
   |nil=>have:=hY3 a (by rw [hY0];simp);rw [ha] at this;cases this
   |cons c cs=>exact ⟨c,cs,b,rfl⟩
 refine sQ 0 m (id:=id) (rows:=X) rfl hst qP hxl (by omega) (by omega) (λk id1 hk hid1=> ?_) (λid1 hid1=> ?_)
 ·have hid1:st id1=none:=hid1
  have htk:(X++aZ k 3).take i=X.take i:=List.take_append_of_le_length (by omega)
  have hgl:(X.take i++aZ (n+m-i) 3).length=n+m:=by rw [zla,zlt];unfold aZ;rw [List.length_replicate];omega
  have hg2:(aV (X.take i++aZ (n+m-i) 3) i Y).length=n+m:=by rw [dZ (by omega),hgl]
  have hgr:aV (aV (X.take i++aZ (n+m-i) 3) i Y) (i+m) (X.drop i)=(dW xs i ys).map Ln.cells:=by rw [hzm];rw [<-hxl];exact sZ hln (by omega)
  (try apply wO pk;rfl);(repeat' first|exact absurd (show Y=[] by assumption) hYn|(refine aC ?_;refine ⟨_,_,upd (upd st id none) id2 (some (.arr 67 ((dW xs i ys).map Ln.cells))),rfl,zwr _,nH (by rw [hgr]) hid1,id2,(by rw [hzl];congr 1;omega),lR hid2,rfl⟩)|apply wD pk [8] [];kernel_rfl;rfl;rfl|show Cn _;constructor|apply wC pk;rfl;rfl|apply wE pk;rfl;rfl|refine aB rfl ?_ ?_<;>intro h<;>(try simp at h)<;>try omega|(refine ahK pk (rows:=X++aZ k 3) rfl rfl rfl rfl (.inr (aA _ _ _)) (by rw [hj];omega) rfl (λc hc1 hc2=> ?_);have hc3:=hc2 (aA _ _ _);rw [hj] at hc3)|apply xF pk (j:=i) (rows:=X++aZ k 3);(iterate 4 rfl);rotate_left;rfl;rfl;exact .inr (aA _ _ _);(rw [hj];omega);exact aU rfl rfl;(rw [hj];omega)|(refine apZ pk (kq:= .i64) (kn:= .i64) (i:=i) (m:=n+m-i) (sz:=3) (rows:=X++aZ k 3) 56 rfl (congrArg (λz=>some (PV.val (.int .i64 z))) (show _=((n+m-i:Nat):Int) from by omega)) rfl (by kernel_rfl) rfl rfl rfl rfl (aA _ _ _) (by rw [hj];omega) (by rw [hj];omega) (by rw [hj];omega) hB (by omega) (by omega) (by omega) rfl (λid2 hid2=> ?_);rw [htk];have hne:id1≠id2:=(λe=>by rw [<-e] at hid2;have hid2:=(aA _ _ _).symm.trans hid2;cases hid2))|apply eO pk (i) (n+m-i);(iterate 4 rfl);rotate_left;rfl;(intro _;exact ⟨_,aU rfl rfl,by omega⟩);(intro _;exact ⟨_,bE,by omega⟩);(intro _;omega);(intro _;omega);rfl|apply eO pk (i+m) (n-i);(iterate 4 rfl);rotate_left;rfl;(intro _;exact ⟨_,aU rfl (show _=((i+m:Nat):Int) from by omega),by omega⟩);(intro _;exact ⟨_,bE,by omega⟩);(intro _;omega);(intro _;omega);rfl|apply eO pk (i) (n-i);(iterate 4 rfl);rotate_left;rfl;(intro _;exact ⟨_,aU rfl rfl,by omega⟩);(intro _;exact ⟨_,bE,by omega⟩);(intro _;omega);(intro _;omega);rfl|(refine jK pk (e:=67) (sz:=3) (rows:=X.take i++aZ (n+m-i) 3) (new:=Y) (m:=Y.length) (n:=Y.length) (len:=n+m-i) rfl rfl rfl rfl rfl (aA _ _ _) (by omega) (qF aF rfl rfl rfl hY3 hY1) rfl hY3 (by omega) (by omega) rfl ?_)|(refine jK pk (e:=67) (sz:=3) (rows:=aV (X.take i++aZ (n+m-i) 3) i Y) (new:=X.drop i) (m:=n-i) (n:=n-i) (len:=n-i) rfl rfl rfl rfl rfl (aA _ _ _) (by omega) (lQ (k:=k) rfl (.inr ((aD ‹_›).trans ((aD ‹_›).trans (aA _ _ _)))) hxl (by omega) qP hX1 (by omega) (by omega)) (by rw [zld];omega) (λr hr=>hX3 r (List.mem_of_mem_drop hr)) (by omega) (by omega) rfl ?_)|intros;(try simp only [zql]);omega)
 ·have hid1:st id1=none:=hid1
  have hg2:(aV (X++aZ m 3) (i+m) (X.drop i)).length=n+m:=by rw [dZ (by rw [zld,hj];omega),hj]
  have hgr:aV (aV (X++aZ m 3) (i+m) (X.drop i)) i Y=(dW xs i ys).map Ln.cells:=by rw [hzm];exact tW hln (by omega)
  (try apply wO pk;rfl);(repeat' first|exact absurd (show Y=[] by assumption) hYn|(refine aC ?_;refine ⟨_,_,upd (upd st id none) id1 (some (.arr 67 ((dW xs i ys).map Ln.cells))),rfl,zwr _,nG (by rw [hgr]),id1,(by rw [hzl]),jB hid1,rfl⟩)|apply wD pk [8] [];kernel_rfl;rfl;rfl|show Cn _;constructor|apply wC pk;rfl;rfl|apply wE pk;rfl;rfl|refine aB rfl ?_ ?_<;>intro h<;>(try simp at h)<;>try omega|apply eO pk (i) (n-i);(iterate 4 rfl);rotate_left;rfl;(intro _;exact ⟨_,aU rfl rfl,by omega⟩);(intro _;exact ⟨_,bE,by omega⟩);(intro _;omega);(intro _;omega);rfl|apply eO pk (i) (n+m-i);(iterate 4 rfl);rotate_left;rfl;(intro _;exact ⟨_,aU rfl rfl,by omega⟩);(intro _;exact ⟨_,bE,by omega⟩);(intro _;omega);(intro _;omega);rfl|apply eO pk (i+m) (n-i);(iterate 4 rfl);rotate_left;rfl;(intro _;exact ⟨_,aU rfl (show _=((i+m:Nat):Int) from by omega),by omega⟩);(intro _;exact ⟨_,bE,by omega⟩);(intro _;omega);(intro _;omega);rfl|(refine ahK pk (rows:=X++aZ m 3) rfl rfl rfl rfl (.inl (aA _ _ _)) (by rw [hj];omega) rfl (λc hc1 hc2=> ?_);rw [hj] at hc1)|apply xF pk (j:=n+m) (rows:=X++aZ m 3);(iterate 4 rfl);rotate_left;rfl;rfl;exact .inl (aA _ _ _);(rw [hj];omega);exact aU rfl (show _=((n+m:Nat):Int) from by omega);(rw [hj];omega)|(refine ovA pk (w:=true) (tS:=84) (tR:=4) (off:=i+m) (len:=n-i) (e:=67) (sz:=3) (rows:=X++aZ m 3) rfl rfl Tryz.func306 (by kernel_rfl) (by kernel_rfl) (by kernel_rfl) (by kernel_rfl) rfl rfl rfl hYc rfl (.inl (aA _ _ _)) (by rw [hj];omega) qP (by omega) ?_ rfl rfl ?_;rotate_left)|(refine jK pk (e:=67) (sz:=3) (rows:=X++aZ m 3) (new:=X.drop i) (m:=n+m-i) (n:=n-i) (len:=n-i) rfl rfl rfl rfl rfl (aA _ _ _) (by rw [hj];omega) (lQ (k:=m) rfl (.inl (aA _ _ _)) hxl (by omega) qP hX1 (by omega) (by omega)) (by rw [zld];omega) (λr hr=>hX3 r (List.mem_of_mem_drop hr)) (by omega) (by omega) rfl ?_)|(refine jK pk (e:=67) (sz:=3) (rows:=aV (X++aZ m 3) (i+m) (X.drop i)) (new:=Y) (m:=Y.length) (n:=Y.length) (len:=n+m-i) rfl rfl rfl rfl rfl (aA _ _ _) (by omega) (qF aF rfl rfl rfl hY3 hY1) rfl hY3 (by omega) (by omega) rfl ?_)|intros;(try simp only [zql]);omega)
abbrev Bs :=List Da
def bsC (b:Bs):List PV:=[.seq (b.map Da.cells)]
def okT (b:Bs) (k:Int):Bool:=decide (0<=k)&&decide (k<b.length)
def aN (b:Bs) (k:Int):List Ln:=if okT b k then (b[k.toNat]!).lines else []
theorem arN (b:Bs) (k:Int) (h:okT b k=false):PF Tryz.prog 62 [.agg (bsC b),(.val (.int .i64 k))] (.tup [.agg [.seq [], .seq [],(.val (.int .i64 0))],(.val (.bool false))]):=by
 unfold okT at h
 simp only [Bool.and_eq_false_iff,decide_eq_false_iff_not] at h
 refine aG aF Tryz.func62 (by kernel_rfl) rfl rfl rfl rfl (λst=> ?_)
 (try apply wO pk;rfl);(repeat' first|show Cn _;constructor|apply wC pk;rfl;rfl|refine aB rfl ?_ ?_<;>intro h<;>(try simp at h)<;>try omega|(refine aC ?_;first|refine ⟨_,_,_,rfl,zwr _,zsr _, ?_,rfl⟩;(fail)|refine ⟨_,_,_,rfl,zwr _,aL ‹_›, ?_,rfl⟩;(fail)|refine ⟨_,_,_,rfl,zwf _,zsr _, ?_,rfl⟩;(rfl)|refine ⟨_,_,_,rfl,zwf _,aL ‹_›, ?_,rfl⟩;(fail)|(refine ⟨_,_,_,rfl,zwr _,zsr _, ?_,rfl⟩)|(refine ⟨_,_,_,rfl,zwf _,aL ‹_›, ?_,rfl⟩)))
theorem aaM (b:Bs) (k:Nat) (h:k<b.length):PF Tryz.prog 62 [.agg (bsC b),(.val (.int .i64 ((k:Nat))))] (.tup [.agg [.seq (b[k].lines.map Ln.cells), .seq (b.map Da.cells),(.val (.int .i64 ((k:Nat))))],(.val (.bool true))]):=by
 refine aG aF Tryz.func62 (by kernel_rfl) rfl rfl rfl rfl (λst=> ?_)
 (try apply wO pk;rfl);(repeat' first|show Cn _;constructor|apply wC pk;rfl;rfl|apply wE pk;rfl;rfl|apply wD pk [] [];kernel_rfl;rfl;rfl|refine aB rfl ?_ ?_<;>intro h<;>(try simp at h)<;>try omega|(refine aC ?_;refine ⟨_,_,_,rfl,zwr _,zsr _, ?_,rfl⟩;try rfl)|apply aP pk;(iterate 6 rfl);rotate_left;rfl;(intro hw;rfl);(intro hw;apply aJ<;>omega);(intro _;rfl);rfl)
theorem azY (x:Ln) (k:Int):PF Tryz.prog 109 [.agg x.cells, .rp [(.val (.int .i64 k))]] (.val (.bool (decide (x.key=k)))):=by
 refine aG aF Tryz.func109 (by kernel_rfl) rfl rfl rfl rfl (λst=> ?_)
 (try apply wO pk;rfl);(repeat' first|show Cn _;constructor|(refine aC ?_;refine ⟨_,_,_,rfl,zwr _,zsr _, ?_,rfl⟩;try rfl))
theorem aBP (x:Ln) (k:Int):PF Tryz.prog 110 [.agg x.cells, .rp [(.val (.int .i64 k))]] (.val (.bool (decide (x.key>k)))):=by
 refine aG aF Tryz.func110 (by kernel_rfl) rfl rfl rfl rfl (λst=> ?_)
 (try apply wO pk;rfl);(repeat' first|show Cn _;constructor|(refine aC ?_;refine ⟨_,_,_,rfl,zwr _,zsr _, ?_,rfl⟩;try rfl))
def atP (l:List Ln) (k:Int):Int×Bool:=
 if cS (λx=>decide (x.key=k)) l>=0 then (cS (λx=>decide (x.key=k)) l,true)
 else if cS (λx=>decide (x.key>k)) l>=0 then (cS (λx=>decide (x.key>k)) l,false) else (l.length,false)
theorem afX (l:List Ln) (k:Int) (hl:l.length<1000000000000):PF Tryz.prog 63 [.seq (l.map Ln.cells),(.val (.int .i64 k))] (.tup [(.val (.int .i64 ((atP l k).1))),(.val (.bool ((atP l k).2)))]):=by
 have h1:=adG 109 [.rp [(PV.val (Value.int .i64 (k)))]] (λx=>decide (x.key=k)) l (by omega) λx=>azY x k
 have h2:=adG 110 [.rp [(PV.val (Value.int .i64 (k)))]] (λx=>decide (x.key>k)) l (by omega) λx=>aBP x k
 unfold atP
 generalize cS (λx=>decide (x.key=k)) l=A at*
 generalize cS (λx=>decide (x.key>k)) l=B at*
 refine aG aF Tryz.func63 (by kernel_rfl) rfl rfl rfl rfl (λst=> ?_)
 (try apply wO pk;rfl);(repeat' first|show Cn _;constructor|apply wC pk;rfl;rfl|apply wE pk;rfl;rfl|refine aB rfl ?_ ?_<;>intro h<;>(try simp at h)<;>try omega|(refine aC ?_;refine ⟨_,_,_,rfl,zwr _,zsr _, ?_,rfl⟩;try first|rfl|(first|rw [zp (by omega)];done|rw [zn (by omega),zp (by omega)];done|rw [zn (by omega),zn (by omega)];simp);done)|(apply aH;rfl;rfl;rfl;(intro _;(first|apply h1|apply h2)<;>first|assumption|omega);rotate_left;rfl;rfl)|apply bD 3;rfl;rfl)
theorem auD {st:aI} {id:Nat} {o:Option AObj} {a b:AObj} (h:b=a):StSub (upd st id (some a)) (upd (upd st id o) id (some b)):=λj=>by
 subst h
 right
 by_cases e:j=id
 ·subst e;rw [aA,aA]
 ·simp only [aD e]
theorem aB2 (b:Bs) (ls l0:List Ln) (k:Nat) (st:aI) (hk:k<b.length) (hl:b.length<100000000000):PC Tryz.prog 236 [.agg [.seq (l0.map Ln.cells), .seq (b.map Da.cells),(.val (.int .i64 ((k:Nat))))], .seq (ls.map Ln.cells)] st λr S=>∃id,r= .agg [.vec id 1 0 b.length]/\st id=none/\S=upd st id (some (.arr 86 ((b.set k ⟨ls⟩).map Da.cells))):=by
 refine cB aF Tryz.func236 (by kernel_rfl) rfl rfl rfl rfl ?_
 (try apply wO pk;rfl);(repeat' first|refine aC ?_;refine ⟨_,_,upd st id (some (.arr 86 ((b.set k ⟨ls⟩).map Da.cells))),rfl,zwr _, ?_,id,rfl,hid,rfl⟩;exact auD (by simp)|show Cn _;constructor|apply wE pk;rfl;rfl|apply ixA pk;(iterate 5 rfl);rotate_left;rfl;(intro hw;(exact (show _=((k:Nat):Int) from by omega)));(intro hw;(omega));rfl;(exact Nat.zero_add _)|apply stA pk Da.elem;rfl;rfl;rfl;(exact aA _ _ _);(omega);rfl|(apply cD;rfl;rfl;(apply (awW b _ (by omega))<;>first|exact aA _ _ _|assumption|omega|(fail));rfl;rfl;rfl;intro _ st' hR;obtain ⟨id,rfl,hid,rfl⟩:=hR))
theorem atZ (b:Bs) (ls l0:List Ln) (k:Nat) (hk:k<b.length) (hl:b.length<100000000000):PF Tryz.prog 236 [.agg [.seq (l0.map Ln.cells), .seq (b.map Da.cells),(.val (.int .i64 ((k:Nat))))], .seq (ls.map Ln.cells)] (.agg (bsC (b.set k ⟨ls⟩))):=λst=>
 gN (sz:=1) (aB2 b ls l0 k st hk hl) λp st' h=>by
  obtain ⟨id,rfl,h3,rfl⟩:=h
  refine .inl ⟨id,86,(b.set k ⟨ls⟩).map Da.cells,_,st,aA _ _ _,afE, .agg (.cons ?_ .nil),cY h3,rfl,rfl⟩
  have e:((b.set k ⟨ls⟩).map Da.cells).length=b.length:=by simp
  rw [<-e];exact .all
theorem axU (b:Bs) (ls l0:List Ln) (k id n:Nat) (st:aI) (hst:st id=some (.arr 67 (ls.map Ln.cells))) (hn:ls.length=n) (hk:k<b.length) (hl:b.length<100000000000):PC Tryz.prog 236 [.agg [.seq (l0.map Ln.cells), .seq (b.map Da.cells),(.val (.int .i64 ((k:Nat))))], .vec id 3 0 n] st λr S=>r= .agg (bsC (b.set k ⟨ls⟩))/\S=upd st id none:=
 PC.freeze2 hst qP ((zql _).trans hn) (atZ b ls l0 k hk hl _)
theorem zK {α:Type} (f:α->Bool) (l:List α):(∃j:Nat,j<l.length/\cS f l=j)\/cS f l= -1:=by
 unfold cS
 cases h:l.findIdx? f with
 |none=>exact .inr rfl
 |some j=>exact .inl ⟨j,(List.findIdx?_eq_some_iff_getElem.1 h).1,rfl⟩
theorem ahC (l:List Ln) (k:Int):∃j:Nat,j<=l.length/\(atP l k).1=j/\((atP l k).2=true->j<l.length):=by
 unfold atP
 rcases zK (λx:Ln=>decide (x.key=k)) l with ⟨j,hj,e⟩|e
 ·rw [zp (by omega)];exact ⟨j,by omega,e,λ_=>hj⟩
 ·rw [zn (by omega)]
  rcases zK (λx:Ln=>decide (x.key>k)) l with ⟨j,hj,e⟩|e
  ·rw [zp (by omega)];exact ⟨j,by omega,e,λh=>by cases h⟩
  ·rw [zn (by omega)];exact ⟨l.length,Nat.le_refl _,rfl,λh=>by cases h⟩
def mC (l:List Ln) (a:Ln):List Ln:=if (atP l a.key).2 then l.set (atP l a.key).1.toNat a else dW l (atP l a.key).1.toNat [a]
def oY (b:Bs) (k:Int) (a:Ln):Bs:=if okT b k then b.set k.toNat ⟨mC (aN b k) a⟩ else b
theorem ahF (b:Bs) (k:Int) (a:Ln) (hl:b.length<100000000000) (hll:∀d∈b,d.lines.length<100000000000):PF Tryz.prog 155 [.agg (bsC b),(.val (.int .i64 k)), .agg a.cells] (.agg (bsC (oY b k a))):=by
 unfold oY
 cases hok:okT b k with
 |false=>
  have ho:=arN b k hok
  rw [zn (by simp)]
  refine aG aF Tryz.func155 (by kernel_rfl) rfl rfl rfl rfl (λst=> ?_)
  (try apply wO pk;rfl);(repeat' first|show Cn _;constructor|apply wC pk;rfl;rfl|apply wE pk;rfl;rfl|refine aB rfl ?_ ?_<;>intro h<;>(try simp at h)<;>try omega|(refine aC ?_;refine ⟨_,_,_,rfl,zwr _,zsr _, ?_,rfl⟩;try rfl)|(apply aH;rfl;rfl;rfl;(intro _;apply ho<;>first|assumption|omega);rotate_left;rfl;rfl))
 |true=>
  obtain ⟨q,rfl,hq⟩:∃q:Nat,k=q/\q<b.length:=by
   unfold okT at hok
   simp only [zba,zde] at hok
   exact ⟨k.toNat,by omega,by omega⟩
  have ho:=aaM b q hq
  have hlq:=hll b[q] (zgm hq)
  have hln:aN b q=b[q].lines:=by unfold aN;rw [zp hok];simp [hq]
  rw [zp rfl,hln,Int.toNat_natCast]
  generalize hLe:b[q].lines=L at*
  have ha:=afX L a.key (by omega)
  obtain ⟨j,hj,e1,e2⟩:=ahC L a.key
  unfold mC
  rw [e1] at ha⊢
  rw [Int.toNat_natCast]
  cases hf:(atP L a.key).2 with
  |true=>
   have hjl:=e2 hf
   rw [hf] at ha
   rw [zp rfl]
   refine aG aF Tryz.func155 (by kernel_rfl) rfl rfl rfl rfl (λst=> ?_)
   (try apply wO pk;rfl);(repeat' first|refine aC ?_;exact ⟨_,_,st,rfl,zwr _,bN (bN (bN (zsr _) hid) hid) hid,(by rw [show (L.toArray.setIfInBounds j a).toList=L.set j a from by simp];rfl),rfl⟩|show Cn _;constructor|apply wC pk;rfl;rfl|apply wE pk;rfl;rfl|refine aB rfl ?_ ?_<;>intro h<;>(try simp at h)<;>try omega|(apply aH;rfl;rfl;rfl;(intro _;(first|apply ho|apply ha)<;>first|assumption|omega);rotate_left;rfl;rfl)|apply ixA pk;(iterate 5 rfl);rotate_left;rfl;(intro hw;(exact (show _=((j:Nat):Int) from by omega)));(intro hw;(omega));rfl;(exact Nat.zero_add _)|apply stA pk Ln.elem;rfl;rfl;rfl;(exact aA _ _ _);(omega);rfl|(apply cD;rfl;rfl;(apply (adJ L _ (by omega))<;>first|exact aA _ _ _|assumption|omega|(fail));rfl;rfl;rfl;intro _ st' hR;obtain ⟨id,rfl,hid,rfl⟩:=hR)|(apply cD;rfl;rfl;((apply (axU b ((L.toArray.setIfInBounds j a).toList) L q id L.length _ (aA _ _ _) (by simp) hq hl)<;>first|exact aA _ _ _|assumption|omega|simp only [zqs];omega|(fail)));rfl;rfl;rfl;intro _ st' hR;(obtain ⟨rfl,rfl⟩:=hR)))
  |false=>
   rw [hf] at ha
   rw [zn (by simp)]
   refine aG aF Tryz.func155 (by kernel_rfl) rfl rfl rfl rfl (λst=> ?_)
   (try apply wO pk;rfl);(repeat' first|refine aC ?_;exact ⟨_,_,st,rfl,zwr _,bN (bN (bN (bN (zsr _) hid) hid) (gR hid hid2)) (gR hid hid2),rfl,rfl⟩|show Cn _;constructor|apply wC pk;rfl;rfl|apply wE pk;rfl;rfl|refine aB rfl ?_ ?_<;>intro h<;>(try simp at h)<;>try omega|(apply aH;rfl;rfl;rfl;(intro _;(first|apply ho|apply ha)<;>first|assumption|omega);rotate_left;rfl;rfl)|(apply cD;rfl;rfl;(apply (adJ L _ (by omega))<;>first|exact aA _ _ _|assumption|omega|(fail));rfl;rfl;rfl;intro _ st' hR;obtain ⟨id,rfl,hid,rfl⟩:=hR)|(apply cD;rfl;rfl;(apply (azF L [a] j id L.length _ (aA _ _ _) rfl hj (by simp) (by simp;omega))<;>first|exact aA _ _ _|assumption|omega|(fail));rfl;rfl;rfl;intro _ st' hR;obtain ⟨id2,rfl,hid2,rfl⟩:=hR)|(apply cD;rfl;rfl;((apply (axU b (dW L j [a]) L q id2 (dW L j [a]).length _ (aA _ _ _) rfl hq hl)<;>first|exact aA _ _ _|assumption|omega|simp only [zqs];omega|(fail)));rfl;rfl;rfl;intro _ st' hR;(obtain ⟨rfl,rfl⟩:=hR)))
def azK (b:Bs) (k key:Int):Bs:=if okT b k then if (atP (aN b k) key).2 then b.set k.toNat ⟨(aN b k).eraseIdx (atP (aN b k) key).1.toNat⟩ else b else b
theorem aEn (k:Int):atP [] k=(0,false):=rfl
def amA (c:Cl):Bool:=decide (c.parts.length<=40)&&decide (c.val.s.size<=400)
def afR (a:Ln):Bool:=a.cells_.all amA&&(decide (a.cells_.length<=20)&&decide (a.by_.length<=60))
def eD (l:List Ln) (k:Int):Option Ln:=l.find? λx=>decide (x.key=k)
def aFP :Option Ln->PV
 |some x=> .tup [.agg x.cells,(PV.val (Value.bool (true)))]
 |none=> .tup [.agg Ln.zero.cells,(PV.val (Value.bool (false)))]
theorem arV {α:Type} {f:α->Bool} {l:List α} {i:Nat} (h:i<l.length) (hf:f l[i]=true) (hn:∀j (h:j<i) (h2:j<l.length),f l[j]=false):l.find? f=some l[i]:=
 List.find?_eq_some_iff_getElem.2 ⟨hf,i,h,rfl,λj hj=>by rw [hn j hj (by omega)];rfl⟩
theorem aER (l:List Ln) (k:Int):(∃j:Nat,∃h:j<l.length,atP l k=(((j:Nat):Int),true)/\eD l k=some l[j])\/((atP l k).2=false/\eD l k=none):=by
 unfold atP eD
 cases h:l.findIdx? λx:Ln=>decide (x.key=k) with
 |some j=>
  left
  obtain ⟨hj,hf,hn⟩:=List.findIdx?_eq_some_iff_getElem.1 h
  refine ⟨j,hj, ?_,arV hj hf λq hq h2=>by simpa using hn q hq⟩
  have e:cS (λx:Ln=>decide (x.key=k)) l=j:=by unfold cS;rw [h]
  rw [e,zp (by omega)]
 |none=>
  right
  have e:cS (λx:Ln=>decide (x.key=k)) l= -1:=by unfold cS;rw [h]
  rw [e,zn (by omega)]
  refine ⟨by split<;>rfl,List.find?_eq_none.2 λx hx=>by rw [List.findIdx?_eq_none_iff.1 h x hx];simp⟩
theorem aaU (b:Bs) (k key:Int) (hll:∀d∈b,d.lines.length<100000000000):PF Tryz.prog 24 [.agg (bsC b),(.val (.int .i64 k)),(.val (.int .i64 key))] (aFP (eD (aN b k) key)):=by
 cases hok:okT b k with
 |false=>
  have ho:=arN b k hok
  have ha:=afX [] key (by simp)
  rw [aEn] at ha
  have e:aN b k=[]:=by unfold aN;rw [hok];rfl
  rw [e,show eD [] key=none from rfl]
  refine aG aF Tryz.func24 (by kernel_rfl) rfl rfl rfl rfl (λst=> ?_)
  (try apply wO pk;rfl);(repeat' first|show Cn _;constructor|apply wC pk;rfl;rfl|apply wE pk;rfl;rfl|refine aB rfl ?_ ?_<;>intro h<;>(try simp at h)<;>try omega|(refine aC ?_;first|refine ⟨_,_,_,rfl,zwr _,zsr _, ?_,rfl⟩;(fail)|refine ⟨_,_,_,rfl,zwr _,aL ‹_›, ?_,rfl⟩;(fail)|refine ⟨_,_,_,rfl,zwf _,zsr _, ?_,rfl⟩;(rfl)|refine ⟨_,_,_,rfl,zwf _,aL ‹_›, ?_,rfl⟩;(fail)|(refine ⟨_,_,_,rfl,zwr _,zsr _, ?_,rfl⟩)|(refine ⟨_,_,_,rfl,zwf _,aL ‹_›, ?_,rfl⟩))|(apply aH;rfl;rfl;rfl;(intro _;(first|apply ho|apply ha)<;>first|assumption|omega);rotate_left;rfl;rfl))
 |true=>
  obtain ⟨q,rfl,hq⟩:∃q:Nat,k=q/\q<b.length:=by
   unfold okT at hok
   simp only [zba,zde] at hok
   exact ⟨k.toNat,by omega,by omega⟩
  have ho:=aaM b q hq
  have hlq:=hll b[q] (zgm hq)
  have hln:aN b q=b[q].lines:=by unfold aN;rw [zp hok];simp [hq]
  rw [hln]
  generalize hLe:b[q].lines=L at*
  have ha:=afX L key (by omega)
  rcases aER L key with ⟨j,hj,e1,e2⟩|⟨e1,e2⟩
  ·rw [e1] at ha
   rw [e2]
   refine aG aF Tryz.func24 (by kernel_rfl) rfl rfl rfl rfl (λst=> ?_)
   (try apply wO pk;rfl);(repeat' first|show Cn _;constructor|apply wC pk;rfl;rfl|apply wE pk;rfl;rfl|refine aB rfl ?_ ?_<;>intro h<;>(try simp at h)<;>try omega|(refine aC ?_;refine ⟨_,_,_,rfl,zwr _,zsr _, ?_,rfl⟩;try rfl)|(apply aH;rfl;rfl;rfl;(intro _;(first|apply ho|apply ha)<;>first|assumption|omega);rotate_left;rfl;rfl)|apply aP pk;(iterate 6 rfl);rotate_left;rfl;(intro hw;rfl);(intro hw;apply aJ<;>omega);(intro _;rfl);rfl)
  ·rw [e1] at ha
   rw [e2]
   refine aG aF Tryz.func24 (by kernel_rfl) rfl rfl rfl rfl (λst=> ?_)
   (try apply wO pk;rfl);(repeat' first|show Cn _;constructor|apply wC pk;rfl;rfl|apply wE pk;rfl;rfl|refine aB rfl ?_ ?_<;>intro h<;>(try simp at h)<;>try omega|(refine aC ?_;first|refine ⟨_,_,_,rfl,zwr _,zsr _, ?_,rfl⟩;(fail)|refine ⟨_,_,_,rfl,zwr _,aL ‹_›, ?_,rfl⟩;(fail)|refine ⟨_,_,_,rfl,zwf _,zsr _, ?_,rfl⟩;(rfl)|refine ⟨_,_,_,rfl,zwf _,aL ‹_›, ?_,rfl⟩;(fail)|(refine ⟨_,_,_,rfl,zwr _,zsr _, ?_,rfl⟩)|(refine ⟨_,_,_,rfl,zwf _,aL ‹_›, ?_,rfl⟩))|(apply aH;rfl;rfl;rfl;(intro _;(first|apply ho|apply ha)<;>first|assumption|omega);rotate_left;rfl;rfl))
end Go.Proofs.YtloecjjehapblaaGreatDoor
