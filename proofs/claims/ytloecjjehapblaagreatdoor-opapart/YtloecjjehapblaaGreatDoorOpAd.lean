import Derived.Test.YtloecjjehapblaaGreatDoorOpAa
import Derived.Test.YtloecjjehapblaaGreatDoorOpAc
set_option linter.unusedSimpArgs false
set_option linter.unusedVariables false
namespace Go.Proofs.YtloecjjehapblaaGreatDoor
open Go Go.Abs
attribute [local irreducible] Ev PWp
set_option maxRecDepth 10000
set_option maxHeartbeats 4000000
theorem anK (l:List Ln) (st:aJ) (hl:l.length<1000000000000):PC Tryz.prog 234 [.seq (l.map Ln.cells)] st (LR 67 3 st (l.map Ln.cells)):=by
 refine cE aD Tryz.func234 (by kernel_rfl) rfl rfl rfl rfl ?_
 (try apply wO pk;rfl);(repeat' first|show Cn _;constructor|apply wC pk;rfl;rfl|apply wE pk;rfl;rfl|refine aA rfl ?_ ?_<;>intro h<;>(try simp at h)<;>try omega|((try refine aB ?_);((refine ⟨_,_,_,rfl,zwr _,zsr _, ?_⟩;((first|exact .inr ⟨rfl,hb h,zsr _⟩|exact .inl ⟨id',by rw [zql],hid',aC _ _ _,dD hid'⟩));done)))|(apply ap0 pk (f:=Ln.cells) l 56;(iterate 10 rfl);exact λ_=>rfl;exact λ_=>rfl;exact agC;(omega);(omega);rfl;intro id' hid')|(apply aAQ pk;(iterate 6 rfl);intro b hb))
theorem aeH (l:List Ln) (st:aJ) (hl:l.length<1000000000000):PC Tryz.prog 234 [.seq (l.map Ln.cells)] st λp S=>∃id,p= .vec id 3 0 l.length/\st id=none/\S=upd st id (some (.arr 67 (l.map Ln.cells))):=
 vM (aaV (anK l st hl)) λp st' ⟨id,h1,h2,h3⟩=>⟨p,st',zwr _,zsr _,id,by rw [h1,zql],h2,h3⟩
theorem anF (l:List Da) (st:aJ) (hl:l.length<1000000000000):PC Tryz.prog 308 [.seq (l.map Da.cells)] st (LR 86 1 st (l.map Da.cells)):=by
 refine cE aD Tryz.func308 (by kernel_rfl) rfl rfl rfl rfl ?_
 (try apply wO pk;rfl);(repeat' first|show Cn _;constructor|apply wC pk;rfl;rfl|apply wE pk;rfl;rfl|refine aA rfl ?_ ?_<;>intro h<;>(try simp at h)<;>try omega|((try refine aB ?_);((refine ⟨_,_,_,rfl,zwr _,zsr _, ?_⟩;((first|exact .inr ⟨rfl,hb h,zsr _⟩|exact .inl ⟨id',by rw [zql],hid',aC _ _ _,dD hid'⟩));done)))|(apply ap0 pk (f:=Da.cells) l 24;(iterate 10 rfl);exact λ_=>rfl;exact λ_=>rfl;exact afZ;(omega);(omega);rfl;intro id' hid')|(apply aAQ pk;(iterate 6 rfl);intro b hb))
theorem ayG (l:List Da) (st:aJ) (hl:l.length<1000000000000):PC Tryz.prog 308 [.seq (l.map Da.cells)] st λp S=>∃id,p= .vec id 1 0 l.length/\st id=none/\S=upd st id (some (.arr 86 (l.map Da.cells))):=
 vM (aaV (anF l st hl)) λp st' ⟨id,h1,h2,h3⟩=>⟨p,st',zwr _,zsr _,id,by rw [h1,zql],h2,h3⟩
def dZ (xs:List Ln) (i:Nat) (ys:List Ln):List Ln:=xs.take i++ys++xs.drop i
theorem akU (xs:List Ln) (i:Nat) (ys:List Ln):(dZ xs i ys).map Ln.cells=(xs.map Ln.cells).take i++ys.map Ln.cells++(xs.map Ln.cells).drop i:=by
 unfold dZ
 rw [List.map_append,List.map_append,List.map_take,List.map_drop]
theorem wR {xs:List Ln} {i:Nat} {ys:List Ln} (hi:i<=xs.length):(dZ xs i ys).length=xs.length+ys.length:=by
 unfold dZ
 simp only [zla,zlt,zld];omega
def aFx (st:aJ) (id:Nat) (zs:List Ln) (r:PV) (S:aJ):Prop:=∃id',r= .vec id' 3 0 zs.length/\upd st id none id'=none/\S=upd (upd st id none) id' (some (.arr 67 (zs.map Ln.cells)))
theorem aAp (xs ys:List Ln) (i id n:Nat) (st:aJ) (hst:st id=some (.arr 67 (xs.map Ln.cells))) (hn:xs.length=n) (hi:i<=n) (hy:ys≠[]) (hl:n+ys.length<1000000000000):PC Tryz.prog 235 [.vec id 3 0 n,(.val (.int .i64 ((i:Nat)))), .seq (ys.map Ln.cells)] st (aFx st id (dZ xs i ys)):=by
 obtain ⟨m,hm⟩:∃m,ys.length=m:=⟨_,rfl⟩
 have hln:(ys.map Ln.cells).length=m:=(zql _).trans hm
 have hm0:0<m:=by rw [<-hm];exact List.length_pos_iff.2 hy
 rw [hm] at hl
 have hzl:(dZ xs i ys).length=n+m:=by rw [wR (by omega),hn,hm]
 have hzm:=akU xs i ys
 have hB:=agC
 refine cE aD Tryz.func235 (by kernel_rfl) rfl rfl rfl rfl ?_
 by_cases hin:i=n
 ·subst hin
  have hz:dZ xs i ys=xs++ys:=by unfold dZ;rw [ztl (by omega),List.drop_of_length_le (by omega),List.append_nil]
  (try apply wO pk;rfl);(repeat' first|exact absurd (show ys=[] by assumption) hy|show Cn _;constructor|apply wC pk;rfl;rfl|apply wE pk;rfl;rfl|refine aA rfl ?_ ?_<;>intro h<;>(try simp at h)<;>try omega|(try refine aB ?_);((refine ⟨_,_,_,rfl,zwr _,zsr _, ?_⟩;(exact ⟨id',(by rw [hzl,hm]),iT hid',(by rw [hz];rfl)⟩);done))|(apply apV pk (f:=Ln.cells) ys 56;(iterate 9 rfl);(assumption);(omega);exact λ_=>rfl;exact λ_=>rfl;exact hB;(omega);(omega);rfl;intro id' hid')|apply atL pk i i;(iterate 4 rfl);rotate_left;rfl;(intro _;exact aV rfl rfl);(intro _;exact bG);(intro _;omega);(intro _;omega);rfl)
 have hlt:i<n:=by omega
 have hxl:(xs.map Ln.cells).length=n:=(zql _).trans hn
 have hX1:∀r∈xs.map Ln.cells,r.all PV.one=true:=λr hr=>by obtain ⟨a,_,rfl⟩:=List.mem_map.1 hr;rfl
 have hX3:∀r∈xs.map Ln.cells,r.length=3:=λr hr=>by obtain ⟨a,_,rfl⟩:=List.mem_map.1 hr;rfl
 have hY1:∀r∈ys.map Ln.cells,r.all PV.one=true:=λr hr=>by obtain ⟨a,_,rfl⟩:=List.mem_map.1 hr;rfl
 have hY3:∀r∈ys.map Ln.cells,r.length=3:=λr hr=>by obtain ⟨a,_,rfl⟩:=List.mem_map.1 hr;rfl
 have hj:∀k,(xs.map Ln.cells++bC k 3).length=n+k:=λk=>by rw [zla,hxl];unfold bC;rw [List.length_replicate]
 generalize hXe:xs.map Ln.cells=X at*
 generalize hYe:ys.map Ln.cells=Y at*
 have hYn:Y≠[]:=λe=>by rw [e] at hln;simp at hln;omega
 obtain ⟨yc,ycs,yr,hYc⟩:∃c cs rest,Y=(c::cs)::rest:=by
  cases hY0:Y with
  |nil=>exact absurd hY0 hYn
  |cons a b=>
   cases ha:a with
   |nil=>have:=hY3 a (by rw [hY0];simp);rw [ha] at this;cases this
   |cons c cs=>exact ⟨c,cs,b,rfl⟩
 refine sO 0 m (id:=id) (rows:=X) rfl hst qK hxl (by omega) (by omega) (λk id1 hk hid1=> ?_) (λid1 hid1=> ?_)
 ·have hid1:st id1=none:=hid1
  have htk:(X++bC k 3).take i=X.take i:=List.take_append_of_le_length (by omega)
  have hgl:(X.take i++bC (n+m-i) 3).length=n+m:=by rw [zla,zlt];unfold bC;rw [List.length_replicate];omega
  have hg2:(aW (X.take i++bC (n+m-i) 3) i Y).length=n+m:=by rw [dV (by omega),hgl]
  have hgr:aW (aW (X.take i++bC (n+m-i) 3) i Y) (i+m) (X.drop i)=(dZ xs i ys).map Ln.cells:=by rw [hzm];rw [<-hxl];exact sV hln (by omega)
  (try apply wO pk;rfl);(repeat' first|exact absurd (show Y=[] by assumption) hYn|(refine aB ?_;refine ⟨_,_,upd (upd st id none) id2 (some (.arr 67 ((dZ xs i ys).map Ln.cells))),rfl,zwr _,nG (by rw [hgr]) hid1,id2,(by rw [hzl];congr 1;omega),lN hid2,rfl⟩)|apply wD pk [8] [];kernel_rfl;rfl;rfl|show Cn _;constructor|apply wC pk;rfl;rfl|apply wE pk;rfl;rfl|refine aA rfl ?_ ?_<;>intro h<;>(try simp at h)<;>try omega|(refine aiL pk (rows:=X++bC k 3) rfl rfl rfl rfl (.inr (aC _ _ _)) (by rw [hj];omega) rfl (λc hc1 hc2=> ?_);have hc3:=hc2 (aC _ _ _);rw [hj] at hc3)|apply xC pk (j:=i) (rows:=X++bC k 3);(iterate 4 rfl);rotate_left;rfl;rfl;exact .inr (aC _ _ _);(rw [hj];omega);exact aV rfl rfl;(rw [hj];omega)|(refine apZ pk (kq:= .i64) (kn:= .i64) (i:=i) (m:=n+m-i) (sz:=3) (rows:=X++bC k 3) 56 rfl (congrArg (λz=>some (PV.val (.int .i64 z))) (show _=((n+m-i:Nat):Int) from by omega)) rfl (by kernel_rfl) rfl rfl rfl rfl (aC _ _ _) (by rw [hj];omega) (by rw [hj];omega) (by rw [hj];omega) hB (by omega) (by omega) (by omega) rfl (λid2 hid2=> ?_);rw [htk];have hne:id1≠id2:=(λe=>by rw [<-e] at hid2;have hid2:=(aC _ _ _).symm.trans hid2;cases hid2))|apply eR pk (i) (n+m-i);(iterate 4 rfl);rotate_left;rfl;(intro _;exact ⟨_,aV rfl rfl,by omega⟩);(intro _;exact ⟨_,bG,by omega⟩);(intro _;omega);(intro _;omega);rfl|apply eR pk (i+m) (n-i);(iterate 4 rfl);rotate_left;rfl;(intro _;exact ⟨_,aV rfl (show _=((i+m:Nat):Int) from by omega),by omega⟩);(intro _;exact ⟨_,bG,by omega⟩);(intro _;omega);(intro _;omega);rfl|apply eR pk (i) (n-i);(iterate 4 rfl);rotate_left;rfl;(intro _;exact ⟨_,aV rfl rfl,by omega⟩);(intro _;exact ⟨_,bG,by omega⟩);(intro _;omega);(intro _;omega);rfl|(refine jG pk (e:=67) (sz:=3) (rows:=X.take i++bC (n+m-i) 3) (new:=Y) (m:=Y.length) (n:=Y.length) (len:=n+m-i) rfl rfl rfl rfl rfl (aC _ _ _) (by omega) (qB aD rfl rfl rfl hY3 hY1) rfl hY3 (by omega) (by omega) rfl ?_)|(refine jG pk (e:=67) (sz:=3) (rows:=aW (X.take i++bC (n+m-i) 3) i Y) (new:=X.drop i) (m:=n-i) (n:=n-i) (len:=n-i) rfl rfl rfl rfl rfl (aC _ _ _) (by omega) (lL (k:=k) rfl (.inr ((aF ‹_›).trans ((aF ‹_›).trans (aC _ _ _)))) hxl (by omega) qK hX1 (by omega) (by omega)) (by rw [zld];omega) (λr hr=>hX3 r (List.mem_of_mem_drop hr)) (by omega) (by omega) rfl ?_)|intros;(try simp only [zql]);omega)
 ·have hid1:st id1=none:=hid1
  have hg2:(aW (X++bC m 3) (i+m) (X.drop i)).length=n+m:=by rw [dV (by rw [zld,hj];omega),hj]
  have hgr:aW (aW (X++bC m 3) (i+m) (X.drop i)) i Y=(dZ xs i ys).map Ln.cells:=by rw [hzm];exact tN hln (by omega)
  (try apply wO pk;rfl);(repeat' first|exact absurd (show Y=[] by assumption) hYn|(refine aB ?_;refine ⟨_,_,upd (upd st id none) id1 (some (.arr 67 ((dZ xs i ys).map Ln.cells))),rfl,zwr _,nF (by rw [hgr]),id1,(by rw [hzl]),iT hid1,rfl⟩)|apply wD pk [8] [];kernel_rfl;rfl;rfl|show Cn _;constructor|apply wC pk;rfl;rfl|apply wE pk;rfl;rfl|refine aA rfl ?_ ?_<;>intro h<;>(try simp at h)<;>try omega|apply eR pk (i) (n-i);(iterate 4 rfl);rotate_left;rfl;(intro _;exact ⟨_,aV rfl rfl,by omega⟩);(intro _;exact ⟨_,bG,by omega⟩);(intro _;omega);(intro _;omega);rfl|apply eR pk (i) (n+m-i);(iterate 4 rfl);rotate_left;rfl;(intro _;exact ⟨_,aV rfl rfl,by omega⟩);(intro _;exact ⟨_,bG,by omega⟩);(intro _;omega);(intro _;omega);rfl|apply eR pk (i+m) (n-i);(iterate 4 rfl);rotate_left;rfl;(intro _;exact ⟨_,aV rfl (show _=((i+m:Nat):Int) from by omega),by omega⟩);(intro _;exact ⟨_,bG,by omega⟩);(intro _;omega);(intro _;omega);rfl|(refine aiL pk (rows:=X++bC m 3) rfl rfl rfl rfl (.inl (aC _ _ _)) (by rw [hj];omega) rfl (λc hc1 hc2=> ?_);rw [hj] at hc1)|apply xC pk (j:=n+m) (rows:=X++bC m 3);(iterate 4 rfl);rotate_left;rfl;rfl;exact .inl (aC _ _ _);(rw [hj];omega);exact aV rfl (show _=((n+m:Nat):Int) from by omega);(rw [hj];omega)|(refine ovA pk (w:=true) (tS:=84) (tR:=4) (off:=i+m) (len:=n-i) (e:=67) (sz:=3) (rows:=X++bC m 3) rfl rfl Tryz.func306 (by kernel_rfl) (by kernel_rfl) (by kernel_rfl) (by kernel_rfl) rfl rfl rfl hYc rfl (.inl (aC _ _ _)) (by rw [hj];omega) qK (by omega) ?_ rfl rfl ?_;rotate_left)|(refine jG pk (e:=67) (sz:=3) (rows:=X++bC m 3) (new:=X.drop i) (m:=n+m-i) (n:=n-i) (len:=n-i) rfl rfl rfl rfl rfl (aC _ _ _) (by rw [hj];omega) (lL (k:=m) rfl (.inl (aC _ _ _)) hxl (by omega) qK hX1 (by omega) (by omega)) (by rw [zld];omega) (λr hr=>hX3 r (List.mem_of_mem_drop hr)) (by omega) (by omega) rfl ?_)|(refine jG pk (e:=67) (sz:=3) (rows:=aW (X++bC m 3) (i+m) (X.drop i)) (new:=Y) (m:=Y.length) (n:=Y.length) (len:=n+m-i) rfl rfl rfl rfl rfl (aC _ _ _) (by omega) (qB aD rfl rfl rfl hY3 hY1) rfl hY3 (by omega) (by omega) rfl ?_)|intros;(try simp only [zql]);omega)
abbrev Bs :=List Da
def bsC (b:Bs):List PV:=[.seq (b.map Da.cells)]
def okT (b:Bs) (k:Int):Bool:=decide (0<=k)&&decide (k<b.length)
def aN (b:Bs) (k:Int):List Ln:=if okT b k then (b[k.toNat]!).lines else []
theorem asU (b:Bs) (k:Int) (h:okT b k=false):PF Tryz.prog 62 [.agg (bsC b),(.val (.int .i64 k))] (.tup [.agg [.seq [], .seq [],(.val (.int .i64 0))],(.val (.bool false))]):=by
 unfold okT at h
 simp only [Bool.and_eq_false_iff,decide_eq_false_iff_not] at h
 refine aG aD Tryz.func62 (by kernel_rfl) rfl rfl rfl rfl (λst=> ?_)
 (try apply wO pk;rfl);(repeat' first|show Cn _;constructor|apply wC pk;rfl;rfl|refine aA rfl ?_ ?_<;>intro h<;>(try simp at h)<;>try omega|(refine aB ?_;first|refine ⟨_,_,_,rfl,zwr _,zsr _, ?_,rfl⟩;(fail)|refine ⟨_,_,_,rfl,zwr _,aL ‹_›, ?_,rfl⟩;(fail)|refine ⟨_,_,_,rfl,zwf _,zsr _, ?_,rfl⟩;(rfl)|refine ⟨_,_,_,rfl,zwf _,aL ‹_›, ?_,rfl⟩;(fail)|(refine ⟨_,_,_,rfl,zwr _,zsr _, ?_,rfl⟩)|(refine ⟨_,_,_,rfl,zwf _,aL ‹_›, ?_,rfl⟩)))
theorem abB (b:Bs) (k:Nat) (h:k<b.length):PF Tryz.prog 62 [.agg (bsC b),(.val (.int .i64 ((k:Nat))))] (.tup [.agg [.seq (b[k].lines.map Ln.cells), .seq (b.map Da.cells),(.val (.int .i64 ((k:Nat))))],(.val (.bool true))]):=by
 refine aG aD Tryz.func62 (by kernel_rfl) rfl rfl rfl rfl (λst=> ?_)
 (try apply wO pk;rfl);(repeat' first|show Cn _;constructor|apply wC pk;rfl;rfl|apply wE pk;rfl;rfl|apply wD pk [] [];kernel_rfl;rfl;rfl|refine aA rfl ?_ ?_<;>intro h<;>(try simp at h)<;>try omega|(refine aB ?_;refine ⟨_,_,_,rfl,zwr _,zsr _, ?_,rfl⟩;try rfl)|apply aO pk;(iterate 6 rfl);rotate_left;rfl;(intro hw;rfl);(intro hw;apply aI<;>omega);(intro _;rfl);rfl)
theorem aAH (x:Ln) (k:Int):PF Tryz.prog 109 [.agg x.cells, .rp [(.val (.int .i64 k))]] (.val (.bool (decide (x.key=k)))):=by
 refine aG aD Tryz.func109 (by kernel_rfl) rfl rfl rfl rfl (λst=> ?_)
 (try apply wO pk;rfl);(repeat' first|show Cn _;constructor|(refine aB ?_;refine ⟨_,_,_,rfl,zwr _,zsr _, ?_,rfl⟩;try rfl))
theorem aCk (x:Ln) (k:Int):PF Tryz.prog 110 [.agg x.cells, .rp [(.val (.int .i64 k))]] (.val (.bool (decide (x.key>k)))):=by
 refine aG aD Tryz.func110 (by kernel_rfl) rfl rfl rfl rfl (λst=> ?_)
 (try apply wO pk;rfl);(repeat' first|show Cn _;constructor|(refine aB ?_;refine ⟨_,_,_,rfl,zwr _,zsr _, ?_,rfl⟩;try rfl))
def atP (l:List Ln) (k:Int):Int×Bool:=
 if cX (λx=>decide (x.key=k)) l>=0 then (cX (λx=>decide (x.key=k)) l,true)
 else if cX (λx=>decide (x.key>k)) l>=0 then (cX (λx=>decide (x.key>k)) l,false) else (l.length,false)
theorem agY (l:List Ln) (k:Int) (hl:l.length<1000000000000):PF Tryz.prog 63 [.seq (l.map Ln.cells),(.val (.int .i64 k))] (.tup [(.val (.int .i64 ((atP l k).1))),(.val (.bool ((atP l k).2)))]):=by
 have h1:=aeE 109 [.rp [(PV.val (Value.int .i64 (k)))]] (λx=>decide (x.key=k)) l (by omega) λx=>aAH x k
 have h2:=aeE 110 [.rp [(PV.val (Value.int .i64 (k)))]] (λx=>decide (x.key>k)) l (by omega) λx=>aCk x k
 unfold atP
 generalize cX (λx=>decide (x.key=k)) l=A at*
 generalize cX (λx=>decide (x.key>k)) l=B at*
 refine aG aD Tryz.func63 (by kernel_rfl) rfl rfl rfl rfl (λst=> ?_)
 (try apply wO pk;rfl);(repeat' first|show Cn _;constructor|apply wC pk;rfl;rfl|apply wE pk;rfl;rfl|refine aA rfl ?_ ?_<;>intro h<;>(try simp at h)<;>try omega|(refine aB ?_;refine ⟨_,_,_,rfl,zwr _,zsr _, ?_,rfl⟩;try first|rfl|(first|rw [zp (by omega)];done|rw [zn (by omega),zp (by omega)];done|rw [zn (by omega),zn (by omega)];simp);done)|(apply aH;rfl;rfl;rfl;(intro _;(first|apply h1|apply h2)<;>first|assumption|omega);rotate_left;rfl;rfl)|apply bE 3;rfl;rfl)
theorem avM {st:aJ} {id:Nat} {o:Option AObj} {a b:AObj} (h:b=a):StSub (upd st id (some a)) (upd (upd st id o) id (some b)):=λj=>by
 subst h
 right
 by_cases e:j=id
 ·subst e;rw [aC,aC]
 ·simp only [aF e]
theorem aCx (b:Bs) (ls l0:List Ln) (k:Nat) (st:aJ) (hk:k<b.length) (hl:b.length<100000000000):PC Tryz.prog 236 [.agg [.seq (l0.map Ln.cells), .seq (b.map Da.cells),(.val (.int .i64 ((k:Nat))))], .seq (ls.map Ln.cells)] st λr S=>∃id,r= .agg [.vec id 1 0 b.length]/\st id=none/\S=upd st id (some (.arr 86 ((b.set k ⟨ls⟩).map Da.cells))):=by
 refine cE aD Tryz.func236 (by kernel_rfl) rfl rfl rfl rfl ?_
 (try apply wO pk;rfl);(repeat' first|refine aB ?_;refine ⟨_,_,upd st id (some (.arr 86 ((b.set k ⟨ls⟩).map Da.cells))),rfl,zwr _, ?_,id,rfl,hid,rfl⟩;exact avM (by simp)|show Cn _;constructor|apply wE pk;rfl;rfl|apply ixA pk;(iterate 5 rfl);rotate_left;rfl;(intro hw;(exact (show _=((k:Nat):Int) from by omega)));(intro hw;(omega));rfl;(exact Nat.zero_add _)|apply stA pk Da.elem;rfl;rfl;rfl;(exact aC _ _ _);(omega);rfl|(apply cG;rfl;rfl;(apply (ayG b _ (by omega))<;>first|exact aC _ _ _|assumption|omega|(fail));rfl;rfl;rfl;intro _ st' hR;obtain ⟨id,rfl,hid,rfl⟩:=hR))
theorem avI (b:Bs) (ls l0:List Ln) (k:Nat) (hk:k<b.length) (hl:b.length<100000000000):PF Tryz.prog 236 [.agg [.seq (l0.map Ln.cells), .seq (b.map Da.cells),(.val (.int .i64 ((k:Nat))))], .seq (ls.map Ln.cells)] (.agg (bsC (b.set k ⟨ls⟩))):=λst=>
 gI (sz:=1) (aCx b ls l0 k st hk hl) λp st' h=>by
  obtain ⟨id,rfl,h3,rfl⟩:=h
  refine .inl ⟨id,86,(b.set k ⟨ls⟩).map Da.cells,_,st,aC _ _ _,agI, .agg (.cons ?_ .nil),dD h3,rfl,rfl⟩
  have e:((b.set k ⟨ls⟩).map Da.cells).length=b.length:=by simp
  rw [<-e];exact .all
theorem azC (b:Bs) (ls l0:List Ln) (k id n:Nat) (st:aJ) (hst:st id=some (.arr 67 (ls.map Ln.cells))) (hn:ls.length=n) (hk:k<b.length) (hl:b.length<100000000000):PC Tryz.prog 236 [.agg [.seq (l0.map Ln.cells), .seq (b.map Da.cells),(.val (.int .i64 ((k:Nat))))], .vec id 3 0 n] st λr S=>r= .agg (bsC (b.set k ⟨ls⟩))/\S=upd st id none:=
 PC.freeze2 hst qK ((zql _).trans hn) (avI b ls l0 k hk hl _)
theorem zN {α:Type} (f:α->Bool) (l:List α):(∃j:Nat,j<l.length/\cX f l=j)\/cX f l= -1:=by
 unfold cX
 cases h:l.findIdx? f with
 |none=>exact .inr rfl
 |some j=>exact .inl ⟨j,(List.findIdx?_eq_some_iff_getElem.1 h).1,rfl⟩
theorem aiD (l:List Ln) (k:Int):∃j:Nat,j<=l.length/\(atP l k).1=j/\((atP l k).2=true->j<l.length):=by
 unfold atP
 rcases zN (λx:Ln=>decide (x.key=k)) l with ⟨j,hj,e⟩|e
 ·rw [zp (by omega)];exact ⟨j,by omega,e,λ_=>hj⟩
 ·rw [zn (by omega)]
  rcases zN (λx:Ln=>decide (x.key>k)) l with ⟨j,hj,e⟩|e
  ·rw [zp (by omega)];exact ⟨j,by omega,e,λh=>by cases h⟩
  ·rw [zn (by omega)];exact ⟨l.length,Nat.le_refl _,rfl,λh=>by cases h⟩
def jL (l:List Ln) (a:Ln):List Ln:=if (atP l a.key).2 then l.set (atP l a.key).1.toNat a else dZ l (atP l a.key).1.toNat [a]
def fP (b:Bs) (k:Int) (a:Ln):Bs:=if okT b k then b.set k.toNat ⟨jL (aN b k) a⟩ else b
theorem aiG (b:Bs) (k:Int) (a:Ln) (hl:b.length<100000000000) (hll:∀d∈b,d.lines.length<100000000000):PF Tryz.prog 155 [.agg (bsC b),(.val (.int .i64 k)), .agg a.cells] (.agg (bsC (fP b k a))):=by
 unfold fP
 cases hok:okT b k with
 |false=>
  have ho:=asU b k hok
  rw [zn (by simp)]
  refine aG aD Tryz.func155 (by kernel_rfl) rfl rfl rfl rfl (λst=> ?_)
  (try apply wO pk;rfl);(repeat' first|show Cn _;constructor|apply wC pk;rfl;rfl|apply wE pk;rfl;rfl|refine aA rfl ?_ ?_<;>intro h<;>(try simp at h)<;>try omega|(refine aB ?_;refine ⟨_,_,_,rfl,zwr _,zsr _, ?_,rfl⟩;try rfl)|(apply aH;rfl;rfl;rfl;(intro _;apply ho<;>first|assumption|omega);rotate_left;rfl;rfl))
 |true=>
  obtain ⟨q,rfl,hq⟩:∃q:Nat,k=q/\q<b.length:=by
   unfold okT at hok
   simp only [zba,zde] at hok
   exact ⟨k.toNat,by omega,by omega⟩
  have ho:=abB b q hq
  have hlq:=hll b[q] (zgm hq)
  have hln:aN b q=b[q].lines:=by unfold aN;rw [zp hok];simp [hq]
  rw [zp rfl,hln,Int.toNat_natCast]
  generalize hLe:b[q].lines=L at*
  have ha:=agY L a.key (by omega)
  obtain ⟨j,hj,e1,e2⟩:=aiD L a.key
  unfold jL
  rw [e1] at ha⊢
  rw [Int.toNat_natCast]
  cases hf:(atP L a.key).2 with
  |true=>
   have hjl:=e2 hf
   rw [hf] at ha
   rw [zp rfl]
   refine aG aD Tryz.func155 (by kernel_rfl) rfl rfl rfl rfl (λst=> ?_)
   (try apply wO pk;rfl);(repeat' first|refine aB ?_;exact ⟨_,_,st,rfl,zwr _,bR (bR (bR (zsr _) hid) hid) hid,(by rw [show (L.toArray.setIfInBounds j a).toList=L.set j a from by simp];rfl),rfl⟩|show Cn _;constructor|apply wC pk;rfl;rfl|apply wE pk;rfl;rfl|refine aA rfl ?_ ?_<;>intro h<;>(try simp at h)<;>try omega|(apply aH;rfl;rfl;rfl;(intro _;(first|apply ho|apply ha)<;>first|assumption|omega);rotate_left;rfl;rfl)|apply ixA pk;(iterate 5 rfl);rotate_left;rfl;(intro hw;(exact (show _=((j:Nat):Int) from by omega)));(intro hw;(omega));rfl;(exact Nat.zero_add _)|apply stA pk Ln.elem;rfl;rfl;rfl;(exact aC _ _ _);(omega);rfl|(apply cG;rfl;rfl;(apply (aeH L _ (by omega))<;>first|exact aC _ _ _|assumption|omega|(fail));rfl;rfl;rfl;intro _ st' hR;obtain ⟨id,rfl,hid,rfl⟩:=hR)|(apply cG;rfl;rfl;((apply (azC b ((L.toArray.setIfInBounds j a).toList) L q id L.length _ (aC _ _ _) (by simp) hq hl)<;>first|exact aC _ _ _|assumption|omega|simp only [zqs];omega|(fail)));rfl;rfl;rfl;intro _ st' hR;(obtain ⟨rfl,rfl⟩:=hR)))
  |false=>
   rw [hf] at ha
   rw [zn (by simp)]
   refine aG aD Tryz.func155 (by kernel_rfl) rfl rfl rfl rfl (λst=> ?_)
   (try apply wO pk;rfl);(repeat' first|refine aB ?_;exact ⟨_,_,st,rfl,zwr _,bR (bR (bR (bR (zsr _) hid) hid) (gN hid hid2)) (gN hid hid2),rfl,rfl⟩|show Cn _;constructor|apply wC pk;rfl;rfl|apply wE pk;rfl;rfl|refine aA rfl ?_ ?_<;>intro h<;>(try simp at h)<;>try omega|(apply aH;rfl;rfl;rfl;(intro _;(first|apply ho|apply ha)<;>first|assumption|omega);rotate_left;rfl;rfl)|(apply cG;rfl;rfl;(apply (aeH L _ (by omega))<;>first|exact aC _ _ _|assumption|omega|(fail));rfl;rfl;rfl;intro _ st' hR;obtain ⟨id,rfl,hid,rfl⟩:=hR)|(apply cG;rfl;rfl;(apply (aAp L [a] j id L.length _ (aC _ _ _) rfl hj (by simp) (by simp;omega))<;>first|exact aC _ _ _|assumption|omega|(fail));rfl;rfl;rfl;intro _ st' hR;obtain ⟨id2,rfl,hid2,rfl⟩:=hR)|(apply cG;rfl;rfl;((apply (azC b (dZ L j [a]) L q id2 (dZ L j [a]).length _ (aC _ _ _) rfl hq hl)<;>first|exact aC _ _ _|assumption|omega|simp only [zqs];omega|(fail)));rfl;rfl;rfl;intro _ st' hR;(obtain ⟨rfl,rfl⟩:=hR)))
theorem aEJ (k:Int):atP [] k=(0,false):=rfl
theorem avT (a b:List Dt) (hb:a.length<4611686018427387904):PF Tryz.prog 64 [.seq (a.map Dt.cells), .seq (b.map Dt.cells)] (.val (.bool (decide (a=b)))):=by
 by_cases hl:¬(a.length=b.length)
 ·have e:decide (a=b)=false:=decide_eq_false λq=>hl (by rw [q])
  refine aG aD Tryz.func64 (by kernel_rfl) rfl rfl rfl rfl (λst=> ?_)
  (try apply wO pk;rfl);(repeat' first|show Cn _;constructor|apply wC pk;rfl;rfl|refine aA rfl ?_ ?_<;>intro h<;>(try simp at h)<;>try omega|(refine aB ?_;refine ⟨_,_,_,rfl,zwr _,zsr _, ?_,rfl⟩;try first|rfl|((rw [e];done));done))
 replace hl:=zdn hl
 refine aG aD Tryz.func64 (by kernel_rfl) rfl rfl rfl rfl (λst=> ?_)
 (try apply wO pk;rfl);(repeat' first|show Cn _;constructor|apply wC pk;rfl;rfl|refine aA rfl ?_ ?_<;>intro h<;>(try simp at h)<;>try omega)
 refine aK (X:={x:Nat//x<=a.length/\∀j (h:j<x) (h1:j<a.length) (h2:j<b.length),a[j]=b[j]}) (λi=>((((St.nil 26 st).pv 0 (.seq (a.map Dt.cells))).pv 1 (.seq (b.map Dt.cells))).pv 5 ((PV.val (Value.int .i64 ((i.1:Nat))))))) (λi=>a.length-i.1) ⟨0,by omega,λ_ h=>absurd h (Nat.not_lt_zero _)⟩ ?_ (λi=> ?_)
 ·((repeat refine Sub.pv ?_ rfl);exact Sub.nil _ _ _ (zsr _) rfl)
 obtain ⟨i,hi,hI⟩:=i
 dsimp only
 by_cases hend:a.length<=i
 ·have e:decide (a=b)=true:=decide_eq_true (List.ext_getElem hl λj h1 h2=>hI j (by omega) h1 h2)
  (try apply wO pk;rfl);(repeat' first|show Cn _;constructor|apply wC pk;rfl;rfl|refine aA rfl ?_ ?_<;>intro h<;>(try simp at h)<;>try omega|(refine aB ?_;refine ⟨_,_,_,rfl,zwr _,zsr _, ?_,rfl⟩;try first|rfl|(rw [e]);done))
 have h1:i<a.length:=by omega
 have h2:i<b.length:=by omega
 have hF:¬a[i]=b[i]->decide (a=b)=false:=λh=>decide_eq_false λq=>h (by subst q;rfl)
 have hS:a[i]=b[i]->∀j (h:j<i+1) (h1:j<a.length) (h2:j<b.length),a[j]=b[j]:=λh j hj h1 h2=>by
  rcases zls.1 hj with q|q
  ·exact hI j q h1 h2
  ·subst q;exact h
 rw [Dt.ext_iff] at hF hS
 (try apply wO pk;rfl);(repeat' first|show Cn _;constructor|apply wC pk;rfl;rfl|apply wE pk;rfl;rfl|apply wD pk [] [];kernel_rfl;rfl;rfl|refine aA rfl ?_ ?_<;>intro h<;>(try simp at h)<;>try omega|(refine aB ?_;refine ⟨_,_,_,rfl,zwr _,zsr _, ?_,rfl⟩;try first|rfl|(rw [hF (by grind)]);done)|apply aO pk;(iterate 6 rfl);rotate_left;rfl;(intro hw;rfl);(intro hw;apply aI<;>omega);(intro _;rfl);rfl|refine ⟨⟨i+1,by omega,hS ‹_›⟩, ?_,by simp only;omega⟩;((repeat refine Sub.pv ?_ rfl);exact Sub.nil _ _ _ (zsr _) rfl)|intros;(try simp only [zql]);omega)
theorem ayB (a b:Cl) (hb:a.parts.length<4611686018427387904):PF Tryz.prog 65 [.agg a.cells, .agg b.cells] (.val (.bool (decide (a=b)))):=by
 by_cases hl:¬(a.kind=b.kind/\(a.val.kind=b.val.kind/\a.val.n=b.val.n/\a.val.s=b.val.s)/\a.parts.length=b.parts.length)
 ·have e:decide (a=b)=false:=decide_eq_false λq=>hl (by rw [q];simp)
  rw [e]
  have hx:(a.kind=b.kind/\a.val.kind=b.val.kind/\a.val.n=b.val.n/\a.val.s=b.val.s)/\(a.parts.length:Int)=(b.parts.length:Int)->False:=λh=>hl ⟨h.1.1,h.1.2,by omega⟩
  refine aG aD Tryz.func65 (by kernel_rfl) rfl rfl rfl rfl (λst=> ?_)
  (try apply wO pk;rfl);(repeat' first|exact (hx ‹_›).elim|show Cn _;constructor|apply wC pk;rfl;rfl|refine aA rfl ?_ ?_<;>intro h<;>(try simp at h)<;>try omega|(refine aB ?_;refine ⟨_,_,_,rfl,zwr _,zsr _, ?_,rfl⟩;try first|rfl|(exfalso;grind);done))
 replace hl:=zdn hl
 obtain ⟨k1,⟨k2,k3,k4⟩,k5⟩:=hl
 have hv:a.val=b.val:=(Vl.ext_iff _ _).2 ⟨k2,k3,k4⟩
 refine aG aD Tryz.func65 (by kernel_rfl) rfl rfl rfl rfl (λst=> ?_)
 (try apply wO pk;rfl);(repeat' first|show Cn _;constructor|apply wC pk;rfl;rfl|refine aA rfl ?_ ?_<;>intro h<;>(try simp at h)<;>try omega|(refine aB ?_;refine ⟨_,_,_,rfl,zwr _,zsr _, ?_,rfl⟩;try first|rfl|(exfalso;grind);done))
 refine aK (X:={x:Nat//x<=a.parts.length/\∀j (h:j<x) (h1:j<a.parts.length) (h2:j<b.parts.length),a.parts[j]=b.parts[j]}) (λi=>((((St.nil 45 st).var 2 80 (a.cells)).var 3 80 (b.cells)).pv 5 ((PV.val (Value.int .i64 ((i.1:Nat))))))) (λi=>a.parts.length-i.1) ⟨0,by omega,λ_ h=>absurd h (Nat.not_lt_zero _)⟩ ?_ (λi=> ?_)
 ·((repeat (first|refine Sub.pv ?_ rfl|refine Sub.var ?_ rfl rfl));exact Sub.nil _ _ _ (zsr _) rfl)
 obtain ⟨i,hi,hI⟩:=i
 dsimp only
 by_cases hend:a.parts.length<=i
 ·have e:decide (a=b)=true:=decide_eq_true ((Cl.ext_iff _ _).2 ⟨k1,hv,List.ext_getElem k5 λj h1 h2=>hI j (by omega) h1 h2⟩)
  (try apply wO pk;rfl);(repeat' first|show Cn _;constructor|apply wC pk;rfl;rfl|refine aA rfl ?_ ?_<;>intro h<;>(try simp at h)<;>try omega|(refine aB ?_;refine ⟨_,_,_,rfl,zwr _,zsr _, ?_,rfl⟩;try first|rfl|(rw [e]);done))
 have h1:i<a.parts.length:=by omega
 have h2:i<b.parts.length:=by omega
 have hF:¬a.parts[i]=b.parts[i]->decide (a=b)=false:=λh=>decide_eq_false λq=>h (by subst q;rfl)
 have hS:a.parts[i]=b.parts[i]->∀j (h:j<i+1) (h1:j<a.parts.length) (h2:j<b.parts.length),a.parts[j]=b.parts[j]:=λh j hj h1 h2=>by
  rcases zls.1 hj with q|q
  ·exact hI j q h1 h2
  ·subst q;exact h
 rw [Pt.ext_iff,Vl.ext_iff,Dt.ext_iff,Dt.ext_iff] at hF hS
 (try apply wO pk;rfl);(repeat' first|show Cn _;constructor|apply wC pk;rfl;rfl|apply wE pk;rfl;rfl|apply wD pk [] [];kernel_rfl;rfl;rfl|refine aA rfl ?_ ?_<;>intro h<;>(try simp at h)<;>try omega|(refine aB ?_;refine ⟨_,_,_,rfl,zwr _,zsr _, ?_,rfl⟩;try first|rfl|(rw [hF (by grind)]);done)|apply aO pk;(iterate 6 rfl);rotate_left;rfl;(intro hw;rfl);(intro hw;apply aI<;>omega);(intro _;rfl);rfl|(refine ⟨⟨i+1,by omega,hS (by grind)⟩, ?_,by simp only;omega⟩;((repeat (first|refine Sub.pv ?_ rfl|refine Sub.var ?_ rfl rfl));exact Sub.nil _ _ _ (zsr _) rfl))|intros;(try simp only [zql]);omega)
theorem rD (a b:Ln) (h1:a.by_.length<4611686018427387904) (hb:a.cells_.length<4611686018427387904) (hp:∀c∈a.cells_,c.parts.length<4611686018427387904):PF Tryz.prog 25 [.agg a.cells, .agg b.cells] (.val (.bool (decide (a=b)))):=by
 have hd:=avT a.by_ b.by_ h1
 by_cases hl:¬((a.key=b.key/\a.cells_.length=b.cells_.length)/\a.by_=b.by_)
 ·have e:decide (a=b)=false:=decide_eq_false λq=>hl (by rw [q];simp)
  rw [e]
  have hx:(a.key=b.key/\(a.cells_.length:Int)=(b.cells_.length:Int))/\a.by_=b.by_->False:=λh=>hl ⟨⟨h.1.1,by omega⟩,h.2⟩
  refine aG aD Tryz.func25 (by kernel_rfl) rfl rfl rfl rfl (λst=> ?_)
  (try apply wO pk;rfl);(repeat' first|exact (hx ‹_›).elim|show Cn _;constructor|apply wC pk;rfl;rfl|apply wE pk;rfl;rfl|apply wX pk;rfl|apply wN pk;rfl|apply wD pk [] [];kernel_rfl;rfl;rfl|apply aM;simp only [zqt,zqf]|refine aA rfl ?_ ?_<;>intro h<;>(try simp at h)<;>try omega|(refine aB ?_;refine ⟨_,_,_,rfl,zwr _,zsr _, ?_,rfl⟩;try first|rfl|(exfalso;grind);done)|(apply aH;rfl;rfl;rfl;(intro _;apply hd<;>first|assumption|omega);rotate_left;rfl;rfl)|intros;(try simp only [zql]);omega)
 replace hl:=zdn hl
 obtain ⟨⟨k1,k5⟩,k2⟩:=hl
 refine aG aD Tryz.func25 (by kernel_rfl) rfl rfl rfl rfl (λst=> ?_)
 (try apply wO pk;rfl);(repeat' first|show Cn _;constructor|apply wC pk;rfl;rfl|apply wE pk;rfl;rfl|apply wX pk;rfl|apply wN pk;rfl|apply wD pk [] [];kernel_rfl;rfl;rfl|apply aM;simp only [zqt,zqf]|refine aA rfl ?_ ?_<;>intro h<;>(try simp at h)<;>try omega|(refine aB ?_;refine ⟨_,_,_,rfl,zwr _,zsr _, ?_,rfl⟩;try first|rfl|(exfalso;grind);done)|(apply aH;rfl;rfl;rfl;(intro _;apply hd<;>first|assumption|omega);rotate_left;rfl;rfl)|intros;(try simp only [zql]);omega)
 refine aK (X:={x:Nat//x<=a.cells_.length/\∀j (h:j<x) (h1:j<a.cells_.length) (h2:j<b.cells_.length),a.cells_[j]=b.cells_[j]}) (λi=>((((St.nil 47 st).var 2 67 (a.cells)).var 3 67 (b.cells)).pv 5 ((PV.val (Value.int .i64 ((i.1:Nat))))))) (λi=>a.cells_.length-i.1) ⟨0,by omega,λ_ h=>absurd h (Nat.not_lt_zero _)⟩ ?_ (λi=> ?_)
 ·((repeat (first|refine Sub.pv ?_ rfl|refine Sub.var ?_ rfl rfl));exact Sub.nil _ _ _ (zsr _) rfl)
 obtain ⟨i,hi,hI⟩:=i
 dsimp only
 by_cases hend:a.cells_.length<=i
 ·have e:decide (a=b)=true:=decide_eq_true ((Ln.ext_iff _ _).2 ⟨k1,List.ext_getElem k5 λj h1 h2=>hI j (by omega) h1 h2,k2⟩)
  (try apply wO pk;rfl);(repeat' first|show Cn _;constructor|apply wC pk;rfl;rfl|apply wE pk;rfl;rfl|apply wX pk;rfl|apply wN pk;rfl|apply wD pk [] [];kernel_rfl;rfl;rfl|apply aM;simp only [zqt,zqf]|refine aA rfl ?_ ?_<;>intro h<;>(try simp at h)<;>try omega|(refine aB ?_;refine ⟨_,_,_,rfl,zwr _,zsr _, ?_,rfl⟩;try first|rfl|(rw [e]);done)|intros;(try simp only [zql]);omega)
 have h1:i<a.cells_.length:=by omega
 have h2:i<b.cells_.length:=by omega
 have hF:¬a.cells_[i]=b.cells_[i]->decide (a=b)=false:=λh=>decide_eq_false λq=>h (by subst q;rfl)
 have hS:a.cells_[i]=b.cells_[i]->∀j (h:j<i+1) (h1:j<a.cells_.length) (h2:j<b.cells_.length),a.cells_[j]=b.cells_[j]:=λh j hj h1 h2=>by
  rcases zls.1 hj with q|q
  ·exact hI j q h1 h2
  ·subst q;exact h
 have hs:=ayB a.cells_[i] b.cells_[i] (hp _ (zgm h1))
 (try apply wO pk;rfl);(repeat' first|show Cn _;constructor|apply wC pk;rfl;rfl|apply wE pk;rfl;rfl|apply wX pk;rfl|apply wN pk;rfl|apply wD pk [] [];kernel_rfl;rfl;rfl|apply aM;simp only [zqt,zqf]|refine aA rfl ?_ ?_<;>intro h<;>(try simp at h)<;>try omega|(refine aB ?_;refine ⟨_,_,_,rfl,zwr _,zsr _, ?_,rfl⟩;try first|rfl|(rw [hF (by grind)]);done)|(apply aH;rfl;rfl;rfl;(intro _;apply hs<;>first|assumption|omega);rotate_left;rfl;rfl)|apply aO pk;(iterate 6 rfl);rotate_left;rfl;(intro hw;rfl);(intro hw;apply aI<;>omega);(intro _;rfl);rfl|(refine ⟨⟨i+1,by omega,hS ‹_›⟩, ?_,by simp only;omega⟩;((repeat (first|refine Sub.pv ?_ rfl|refine Sub.var ?_ rfl rfl));exact Sub.nil _ _ _ (zsr _) rfl))|intros;(try simp only [zql]);omega)
def lP (c:Cl):Bool:=decide (c.parts.length<=40)&&decide (c.val.s.size<=400)
def fH (a:Ln):Bool:=a.cells_.all lP&&(decide (a.cells_.length<=20)&&decide (a.by_.length<=60))
theorem acG (a:Ln) (hl:a.cells_.length<4611686018427387904):PF Tryz.prog 121 [.agg a.cells] (.val (.bool (fH a))):=by
 refine aG aD Tryz.func121 (by kernel_rfl) rfl rfl rfl rfl (λst=> ?_)
 (try apply wO pk;rfl);(repeat' ((show Cn _;constructor)))
 refine aK (X:={x:Nat//x<=a.cells_.length/\∀j (h:j<x) (h1:j<a.cells_.length),lP a.cells_[j]=true}) (λi=>(((St.nil 40 st).var 1 67 (a.cells)).pv 3 ((PV.val (Value.int .i64 ((i.1:Nat))))))) (λi=>a.cells_.length-i.1) ⟨0,by omega,λ_ h=>absurd h (Nat.not_lt_zero _)⟩ ?_ (λi=> ?_)
 ·((repeat (first|refine Sub.pv ?_ rfl|refine Sub.var ?_ rfl rfl));exact Sub.nil _ _ _ (zsr _) rfl)
 obtain ⟨i,hi,hI⟩:=i
 dsimp only
 by_cases hend:a.cells_.length<=i
 ·have e:a.cells_.all lP=true:=zal.2 λc hc=>by
   obtain ⟨j,hj,rfl⟩:=zgo hc
   exact hI j (by omega) hj
  unfold fH
  rw [e,Bool.true_and]
  have e2:(decide (((a.cells_.map Cl.cells).length:Int)<=20)&&decide (((a.by_.map Dt.cells).length:Int)<=60))=(decide (a.cells_.length<=20)&&decide (a.by_.length<=60)):=by
   rw [Bool.eq_iff_iff];simp only [zba,zde,zql];omega
  (try apply wO pk;rfl);(repeat' first|show Cn _;constructor|apply wC pk;rfl;rfl|refine aA rfl ?_ ?_<;>intro h<;>(try simp at h)<;>try omega|(refine aB ?_;refine ⟨_,_,_,rfl,zwr _,zsr _, ?_,rfl⟩;try first|rfl|(rw [e2]);done))
 have h1:i<a.cells_.length:=by omega
 have hF:lP a.cells_[i]=false->fH a=false:=λh=>by
  unfold fH
  have:a.cells_.all lP=false:=by
   rw [<-Bool.not_eq_true,zal]
   intro q;rw [q _ (zgm h1)] at h;cases h
  rw [this];rfl
 have hS:lP a.cells_[i]=true->∀j (h:j<i+1) (h1:j<a.cells_.length),lP a.cells_[j]=true:=λh j hj h1=>by
  rcases zls.1 hj with q|q
  ·exact hI j q h1
  ·subst q;exact h
 unfold lP at hF hS
 (try apply wO pk;rfl);(repeat' first|show Cn _;constructor|apply wC pk;rfl;rfl|apply wE pk;rfl;rfl|refine aA rfl ?_ ?_<;>intro h<;>(try simp at h)<;>try omega|(refine aB ?_;refine ⟨_,_,_,rfl,zwr _,zsr _, ?_,rfl⟩;try first|rfl|(rw [hF (by simp;omega)]);done)|apply aO pk;(iterate 6 rfl);rotate_left;rfl;(intro hw;rfl);(intro hw;apply aI<;>omega);(intro _;rfl);rfl|(refine ⟨⟨i+1,by omega,hS (by simp;omega)⟩, ?_,by simp only;omega⟩;((repeat (first|refine Sub.pv ?_ rfl|refine Sub.var ?_ rfl rfl));exact Sub.nil _ _ _ (zsr _) rfl))|intros;(try simp only [zql]);omega)
def cL (l:List Ln) (k:Int):Option Ln:=l.find? λx=>decide (x.key=k)
def aFI :Option Ln->PV
 |some x=> .tup [.agg x.cells,(PV.val (Value.bool (true)))]
 |none=> .tup [.agg Ln.zero.cells,(PV.val (Value.bool (false)))]
theorem atB {α:Type} {f:α->Bool} {l:List α} {i:Nat} (h:i<l.length) (hf:f l[i]=true) (hn:∀j (h:j<i) (h2:j<l.length),f l[j]=false):l.find? f=some l[i]:=
 List.find?_eq_some_iff_getElem.2 ⟨hf,i,h,rfl,λj hj=>by rw [hn j hj (by omega)];rfl⟩
theorem aE3 (l:List Ln) (k:Int):(∃j:Nat,∃h:j<l.length,atP l k=(((j:Nat):Int),true)/\cL l k=some l[j])\/((atP l k).2=false/\cL l k=none):=by
 unfold atP cL
 cases h:l.findIdx? λx:Ln=>decide (x.key=k) with
 |some j=>
  left
  obtain ⟨hj,hf,hn⟩:=List.findIdx?_eq_some_iff_getElem.1 h
  refine ⟨j,hj, ?_,atB hj hf λq hq h2=>by simpa using hn q hq⟩
  have e:cX (λx:Ln=>decide (x.key=k)) l=j:=by unfold cX;rw [h]
  rw [e,zp (by omega)]
 |none=>
  right
  have e:cX (λx:Ln=>decide (x.key=k)) l= -1:=by unfold cX;rw [h]
  rw [e,zn (by omega)]
  refine ⟨by split<;>rfl,List.find?_eq_none.2 λx hx=>by rw [List.findIdx?_eq_none_iff.1 h x hx];simp⟩
theorem alS (b:Bs) (k key:Int) (hll:∀d∈b,d.lines.length<100000000000):PF Tryz.prog 24 [.agg (bsC b),(.val (.int .i64 k)),(.val (.int .i64 key))] (aFI (cL (aN b k) key)):=by
 cases hok:okT b k with
 |false=>
  have ho:=asU b k hok
  have ha:=agY [] key (by simp)
  rw [aEJ] at ha
  have e:aN b k=[]:=by unfold aN;rw [hok];rfl
  rw [e,show cL [] key=none from rfl]
  refine aG aD Tryz.func24 (by kernel_rfl) rfl rfl rfl rfl (λst=> ?_)
  (try apply wO pk;rfl);(repeat' first|show Cn _;constructor|apply wC pk;rfl;rfl|apply wE pk;rfl;rfl|refine aA rfl ?_ ?_<;>intro h<;>(try simp at h)<;>try omega|(refine aB ?_;first|refine ⟨_,_,_,rfl,zwr _,zsr _, ?_,rfl⟩;(fail)|refine ⟨_,_,_,rfl,zwr _,aL ‹_›, ?_,rfl⟩;(fail)|refine ⟨_,_,_,rfl,zwf _,zsr _, ?_,rfl⟩;(rfl)|refine ⟨_,_,_,rfl,zwf _,aL ‹_›, ?_,rfl⟩;(fail)|(refine ⟨_,_,_,rfl,zwr _,zsr _, ?_,rfl⟩)|(refine ⟨_,_,_,rfl,zwf _,aL ‹_›, ?_,rfl⟩))|(apply aH;rfl;rfl;rfl;(intro _;(first|apply ho|apply ha)<;>first|assumption|omega);rotate_left;rfl;rfl))
 |true=>
  obtain ⟨q,rfl,hq⟩:∃q:Nat,k=q/\q<b.length:=by
   unfold okT at hok
   simp only [zba,zde] at hok
   exact ⟨k.toNat,by omega,by omega⟩
  have ho:=abB b q hq
  have hlq:=hll b[q] (zgm hq)
  have hln:aN b q=b[q].lines:=by unfold aN;rw [zp hok];simp [hq]
  rw [hln]
  generalize hLe:b[q].lines=L at*
  have ha:=agY L key (by omega)
  rcases aE3 L key with ⟨j,hj,e1,e2⟩|⟨e1,e2⟩
  ·rw [e1] at ha
   rw [e2]
   refine aG aD Tryz.func24 (by kernel_rfl) rfl rfl rfl rfl (λst=> ?_)
   (try apply wO pk;rfl);(repeat' first|show Cn _;constructor|apply wC pk;rfl;rfl|apply wE pk;rfl;rfl|refine aA rfl ?_ ?_<;>intro h<;>(try simp at h)<;>try omega|(refine aB ?_;refine ⟨_,_,_,rfl,zwr _,zsr _, ?_,rfl⟩;try rfl)|(apply aH;rfl;rfl;rfl;(intro _;(first|apply ho|apply ha)<;>first|assumption|omega);rotate_left;rfl;rfl)|apply aO pk;(iterate 6 rfl);rotate_left;rfl;(intro hw;rfl);(intro hw;apply aI<;>omega);(intro _;rfl);rfl)
  ·rw [e1] at ha
   rw [e2]
   refine aG aD Tryz.func24 (by kernel_rfl) rfl rfl rfl rfl (λst=> ?_)
   (try apply wO pk;rfl);(repeat' first|show Cn _;constructor|apply wC pk;rfl;rfl|apply wE pk;rfl;rfl|refine aA rfl ?_ ?_<;>intro h<;>(try simp at h)<;>try omega|(refine aB ?_;first|refine ⟨_,_,_,rfl,zwr _,zsr _, ?_,rfl⟩;(fail)|refine ⟨_,_,_,rfl,zwr _,aL ‹_›, ?_,rfl⟩;(fail)|refine ⟨_,_,_,rfl,zwf _,zsr _, ?_,rfl⟩;(rfl)|refine ⟨_,_,_,rfl,zwf _,aL ‹_›, ?_,rfl⟩;(fail)|(refine ⟨_,_,_,rfl,zwr _,zsr _, ?_,rfl⟩)|(refine ⟨_,_,_,rfl,zwf _,aL ‹_›, ?_,rfl⟩))|(apply aH;rfl;rfl;rfl;(intro _;(first|apply ho|apply ha)<;>first|assumption|omega);rotate_left;rfl;rfl))
theorem aqR (a b:Bs) (hb:a.length<4611686018427387904) (hp:∀d∈a,d.lines.length<1000000000000/\∀x∈d.lines,x.by_.length<1000000000000/\x.cells_.length<1000000000000/\∀c∈x.cells_,c.parts.length<1000000000000):PF Tryz.prog 22 [.agg (bsC a), .agg (bsC b)] (.val (.bool (decide (a=b)))):=by
 by_cases hl:¬(a.length=b.length)
 ·have e:decide (a=b)=false:=decide_eq_false λq=>hl (by rw [q])
  refine aG aD Tryz.func22 (by kernel_rfl) rfl rfl rfl rfl (λst=> ?_)
  (try apply wO pk;rfl);(repeat' first|show Cn _;constructor|apply wC pk;rfl;rfl|refine aA rfl ?_ ?_<;>intro h<;>(try simp at h)<;>try omega|(refine aB ?_;refine ⟨_,_,_,rfl,zwr _,zsr _, ?_,rfl⟩;try first|rfl|((rw [e];done));done))
 replace hl:=zdn hl
 refine aG aD Tryz.func22 (by kernel_rfl) rfl rfl rfl rfl (λst=> ?_)
 (try apply wO pk;rfl);(repeat' first|show Cn _;constructor|apply wC pk;rfl;rfl|refine aA rfl ?_ ?_<;>intro h<;>(try simp at h)<;>try omega)
 refine aK (X:={x:Nat//x<=a.length/\∀j (h:j<x) (h1:j<a.length) (h2:j<b.length),a[j]=b[j]}) (λi=>((((St.nil 56 st).var 2 27 ((bsC a))).var 3 27 ((bsC b))).pv 5 ((PV.val (Value.int .i64 ((i.1:Nat))))))) (λi=>a.length-i.1) ⟨0,by omega,λ_ h=>absurd h (Nat.not_lt_zero _)⟩ ?_ (λi=> ?_)
 ·((repeat (first|refine Sub.pv ?_ rfl|refine Sub.var ?_ rfl rfl));exact Sub.nil _ _ _ (zsr _) rfl)
 obtain ⟨i,hi,hI⟩:=i
 dsimp only
 by_cases hend:a.length<=i
 ·have e:decide (a=b)=true:=decide_eq_true (List.ext_getElem hl λj h1 h2=>hI j (by omega) h1 h2)
  (try apply wO pk;rfl);(repeat' first|show Cn _;constructor|apply wC pk;rfl;rfl|refine aA rfl ?_ ?_<;>intro h<;>(try simp at h)<;>try omega|(refine aB ?_;refine ⟨_,_,_,rfl,zwr _,zsr _, ?_,rfl⟩;try first|rfl|(rw [e]);done))
 have h1:i<a.length:=by omega
 have h2:i<b.length:=by omega
 have hF:¬a[i]=b[i]->decide (a=b)=false:=λh=>decide_eq_false λq=>h (by subst q;rfl)
 have hS:a[i]=b[i]->∀j (h:j<i+1) (h1:j<a.length) (h2:j<b.length),a[j]=b[j]:=λh j hj h1 h2=>by
  rcases zls.1 hj with q|q
  ·exact hI j q h1 h2
  ·subst q;exact h
 obtain ⟨p1,p2⟩:=hp a[i] (zgm h1)
 rw [Da.ext_iff] at hF hS
 have hF2:¬(a[i].lines.length:Int)=(b[i].lines.length:Int)->decide (a=b)=false:=λh=>hF λq=>h (by rw [q])
 (try apply wO pk;rfl);(repeat' first|show Cn _;constructor|apply wC pk;rfl;rfl|apply wE pk;rfl;rfl|refine aA rfl ?_ ?_<;>intro h<;>(try simp at h)<;>try omega|(refine aB ?_;refine ⟨_,_,_,rfl,zwr _,zsr _, ?_,rfl⟩;try first|rfl|(rw [hF2 ‹_›]);done)|apply aO pk;(iterate 6 rfl);rotate_left;rfl;(intro hw;rfl);(intro hw;apply aI<;>omega);(intro _;rfl);rfl)
 have hll:a[i].lines.length=b[i].lines.length:=by omega
 refine aK (X:={x:Nat//x<=a[i].lines.length/\∀j (h:j<x) (h1:j<a[i].lines.length) (h2:j<b[i].lines.length),a[i].lines[j]=b[i].lines[j]}) (λy=>(((((((St.nil 56 st).var 2 27 ((bsC a))).var 3 27 ((bsC b))).pv 5 ((PV.val (Value.int .i64 ((i:Nat)))))).pv 6 (.seq (a[i].lines.map Ln.cells))).pv 7 (.seq (b[i].lines.map Ln.cells))).pv 8 ((PV.val (Value.int .i64 ((y.1:Nat))))))) (λy=>a[i].lines.length-y.1) ⟨0,by omega,λ_ h=>absurd h (Nat.not_lt_zero _)⟩ ?_ (λy=> ?_)
 ·((repeat (first|refine Sub.pv ?_ rfl|refine Sub.var ?_ rfl rfl));exact Sub.nil _ _ _ (zsr _) rfl)
 obtain ⟨y,hy,hyI⟩:=y
 dsimp only
 by_cases hend2:a[i].lines.length<=y
 ·have e:a[i].lines=b[i].lines:=List.ext_getElem hll λj h1 h2=>hyI j (by omega) h1 h2
  (try apply wO pk;rfl);(repeat' first|show Cn _;constructor|apply wC pk;rfl;rfl|refine aA rfl ?_ ?_<;>intro h<;>(try simp at h)<;>try omega|(refine ⟨⟨i+1,by omega,hS e⟩, ?_,by simp only;omega⟩;((repeat (first|refine Sub.pv ?_ rfl|refine Sub.var ?_ rfl rfl));exact Sub.nil _ _ _ (zsr _) rfl))|intros;(try simp only [zql]);omega)
 have g1:y<a[i].lines.length:=by omega
 have g2:y<b[i].lines.length:=by omega
 obtain ⟨r1,r2,r3⟩:=p2 a[i].lines[y] (zgm g1)
 have hs:=rD a[i].lines[y] b[i].lines[y] (by omega) (by omega) λc hc=>by have:=r3 c hc;omega
 have hF3:¬a[i].lines[y]=b[i].lines[y]->decide (a=b)=false:=λh=>hF λq=>h (by simp only [q])
 have hS3:a[i].lines[y]=b[i].lines[y]->∀j (h:j<y+1) (h1:j<a[i].lines.length) (h2:j<b[i].lines.length),a[i].lines[j]=b[i].lines[j]:=λh j hj h1 h2=>by
  rcases zls.1 hj with q|q
  ·exact hyI j q h1 h2
  ·subst q;exact h
 (try apply wO pk;rfl);(repeat' first|show Cn _;constructor|apply wC pk;rfl;rfl|apply wE pk;rfl;rfl|apply wD pk [] [];kernel_rfl;rfl;rfl|refine aA rfl ?_ ?_<;>intro h<;>(try simp at h)<;>try omega|(refine aB ?_;refine ⟨_,_,_,rfl,zwr _,zsr _, ?_,rfl⟩;try first|rfl|(rw [hF3 ‹_›]);done)|(apply aH;rfl;rfl;rfl;(intro _;apply hs<;>first|assumption|omega);rotate_left;rfl;rfl)|apply aO pk;(iterate 6 rfl);rotate_left;rfl;(intro hw;rfl);(intro hw;apply aI<;>omega);(intro _;rfl);rfl|(refine ⟨⟨y+1,by omega,hS3 ‹_›⟩, ?_,by simp only;omega⟩;((repeat (first|refine Sub.pv ?_ rfl|refine Sub.var ?_ rfl rfl));exact Sub.nil _ _ _ (zsr _) rfl))|intros;(try simp only [zql]);omega)
end Go.Proofs.YtloecjjehapblaaGreatDoor
