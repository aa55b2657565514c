import Derived.Test.YtloecjjehapblaaGreatDoorOpAa
import Derived.Test.YtloecjjehapblaaGreatDoorOpAk
import Derived.Test.YtloecjjehapblaaGreatDoorAbsK
set_option linter.unusedSimpArgs false
set_option linter.unusedVariables false
namespace Go.Proofs.YtloecjjehapblaaGreatDoor
open Go Go.Abs
attribute [local irreducible] Ev PWp
set_option maxRecDepth 10000
set_option maxHeartbeats 4000000
def dJ (xs:List Pt) (i:Nat) (ys:List Pt):List Pt:=xs.take i++ys++xs.drop i
theorem ajG (xs:List Pt) (i:Nat) (ys:List Pt):(dJ xs i ys).map Pt.cells=(xs.map Pt.cells).take i++ys.map Pt.cells++(xs.map Pt.cells).drop i:=by
 unfold dJ
 rw [List.map_append,List.map_append,List.map_take,List.map_drop]
theorem akC {xs:List Pt} {i:Nat} {ys:List Pt} (hi:i<=xs.length):(dJ xs i ys).length=xs.length+ys.length:=by
 unfold dJ
 simp only [zla,zlt,zld];omega
def aEi (st:aJ) (id:Nat) (zs:List Pt) (r:PV) (S:aJ):Prop:=∃id',r= .vec id' 11 0 zs.length/\upd st id none id'=none/\S=upd (upd st id none) id' (some (.arr 190 (zs.map Pt.cells)))
theorem ahM (xs ys:List Pt) (i id n:Nat) (st:aJ) (hst:st id=some (.arr 190 (xs.map Pt.cells))) (hn:xs.length=n) (hi:i<=n) (hy:ys≠[]) (hl:n+ys.length<1000000000000):PC Tryz.prog 315 [.vec id 11 0 n,(PV.val (Value.int .i64 ((i:Nat)))), .seq (ys.map Pt.cells)] st (aEi st id (dJ xs i ys)):=by
 obtain ⟨m,hm⟩:∃m,ys.length=m:=⟨_,rfl⟩
 have hln:(ys.map Pt.cells).length=m:=(zql _).trans hm
 have hm0:0<m:=by rw [<-hm];exact List.length_pos_iff.2 hy
 rw [hm] at hl
 have hzl:(dJ xs i ys).length=n+m:=by rw [akC (by omega),hn,hm]
 have hzm:=ajG xs i ys
 have hB:=tV
 refine bZ aF Tryz.func315 (by kernel_rfl) rfl rfl rfl rfl ?_
 by_cases hin:i=n
 ·subst hin
  have hz:dJ xs i ys=xs++ys:=by unfold dJ;rw [List.take_of_length_le (by omega),List.drop_of_length_le (by omega),List.append_nil]
  (try apply wO pk;rfl);(repeat' first|exact absurd (show ys=[] by assumption) hy|show All _;constructor|show Imp _ _;constructor|apply wC pk;rfl;rfl|apply wE pk;rfl;rfl|refine aA rfl ?_ ?_<;>intro h<;>(try simp at h)<;>try omega|(try refine aC ?_);((refine ⟨_,_,_,rfl,zwr _,zsr _, ?_⟩;(exact ⟨id',(by rw [hzl,hm]),iW hid',(by rw [hz];rfl)⟩);done))|(apply apV pk (f:=Pt.cells) ys 96;(iterate 9 rfl);(assumption);(omega);exact λ_=>rfl;exact λ_=>rfl;exact hB;(omega);(omega);rfl;intro id' hid')|apply asD pk i i;(iterate 4 rfl);rotate_left;rfl;(intro _;exact aT rfl rfl);(intro _;exact bD);(intro _;omega);(intro _;omega);rfl)
 have hlt:i<n:=by omega
 have hxl:(xs.map Pt.cells).length=n:=(zql _).trans hn
 have hX1:∀r∈xs.map Pt.cells,r.all PV.one=true:=λr hr=>by obtain ⟨a,_,rfl⟩:=List.mem_map.1 hr;rfl
 have hX3:∀r∈xs.map Pt.cells,r.length=11:=λr hr=>by obtain ⟨a,_,rfl⟩:=List.mem_map.1 hr;rfl
 have hY1:∀r∈ys.map Pt.cells,r.all PV.one=true:=λr hr=>by obtain ⟨a,_,rfl⟩:=List.mem_map.1 hr;rfl
 have hY3:∀r∈ys.map Pt.cells,r.length=11:=λr hr=>by obtain ⟨a,_,rfl⟩:=List.mem_map.1 hr;rfl
 have hj:∀k,(xs.map Pt.cells++aZ k 11).length=n+k:=λk=>by rw [zla,hxl];unfold aZ;rw [List.length_replicate]
 generalize hXe:xs.map Pt.cells=X at*
 generalize hYe:ys.map Pt.cells=Y at*
 have hYn:Y≠[]:=λe=>by rw [e] at hln;simp at hln;omega
 obtain ⟨yc,ycs,yr,hYc⟩:∃c cs rest,Y=(c::cs)::rest:=by
  cases hY0:Y with
  |nil=>exact absurd hY0 hYn
  |cons a b=>
   cases ha:a with
   |nil=>have:=hY3 a (by rw [hY0];simp);rw [ha] at this;cases this
   |cons c cs=>exact ⟨c,cs,b,rfl⟩
 refine sI 0 m (id:=id) (rows:=X) rfl hst qM hxl (by omega) (by omega) (λk id1 hk hid1=> ?_) (λid1 hid1=> ?_)
 ·have hid1:st id1=none:=hid1
  have htk:(X++aZ k 11).take i=X.take i:=List.take_append_of_le_length (by omega)
  have hgl:(X.take i++aZ (n+m-i) 11).length=n+m:=by rw [zla,zlt];unfold aZ;rw [List.length_replicate];omega
  have hg2:(aU (X.take i++aZ (n+m-i) 11) i Y).length=n+m:=by rw [dX (by omega),hgl]
  have hgr:aU (aU (X.take i++aZ (n+m-i) 11) i Y) (i+m) (X.drop i)=(dJ xs i ys).map Pt.cells:=by rw [hzm];rw [<-hxl];exact sS hln (by omega)
  (try apply wO pk;rfl);(repeat' first|exact absurd (show Y=[] by assumption) hYn|(refine aC ?_;refine ⟨_,_,upd (upd st id none) id2 (some (.arr 190 ((dJ xs i ys).map Pt.cells))),rfl,zwr _,nD (by rw [hgr]) hid1,id2,(by rw [hzl];congr 1;omega),lO hid2,rfl⟩)|apply wD pk [8] [];kernel_rfl;rfl;rfl|show All _;constructor|show Imp _ _;constructor|apply wC pk;rfl;rfl|apply wE pk;rfl;rfl|refine aA rfl ?_ ?_<;>intro h<;>(try simp at h)<;>try omega|(refine ahO pk (rows:=X++aZ k 11) rfl rfl rfl rfl (.inr (aB _ _ _)) (by rw [hj];omega) rfl (λc hc1 hc2=> ?_);have hc3:=hc2 (aB _ _ _);rw [hj] at hc3)|apply xD pk (j:=i) (rows:=X++aZ k 11);(iterate 4 rfl);rotate_left;rfl;rfl;exact .inr (aB _ _ _);(rw [hj];omega);exact aT rfl rfl;(rw [hj];omega)|(refine apZ pk (kq:= .i64) (kn:= .i64) (i:=i) (m:=n+m-i) (sz:=11) (rows:=X++aZ k 11) 96 rfl (congrArg (λz=>some (PV.val (.int .i64 z))) (show _=((n+m-i:Nat):Int) from by omega)) rfl (by kernel_rfl) rfl rfl rfl rfl (aB _ _ _) (by rw [hj];omega) (by rw [hj];omega) (by rw [hj];omega) hB (by omega) (by omega) (by omega) rfl (λid2 hid2=> ?_);rw [htk];have hne:id1≠id2:=(λe=>by rw [<-e] at hid2;have hid2:=(aB _ _ _).symm.trans hid2;cases hid2))|apply eQ pk (i) (n+m-i);(iterate 4 rfl);rotate_left;rfl;(intro _;exact ⟨_,aT rfl rfl,by omega⟩);(intro _;exact ⟨_,bD,by omega⟩);(intro _;omega);(intro _;omega);rfl|apply eQ pk (i+m) (n-i);(iterate 4 rfl);rotate_left;rfl;(intro _;exact ⟨_,aT rfl (show _=((i+m:Nat):Int) from by omega),by omega⟩);(intro _;exact ⟨_,bD,by omega⟩);(intro _;omega);(intro _;omega);rfl|apply eQ pk (i) (n-i);(iterate 4 rfl);rotate_left;rfl;(intro _;exact ⟨_,aT rfl rfl,by omega⟩);(intro _;exact ⟨_,bD,by omega⟩);(intro _;omega);(intro _;omega);rfl|(refine jK pk (e:=190) (sz:=11) (rows:=X.take i++aZ (n+m-i) 11) (new:=Y) (m:=Y.length) (n:=Y.length) (len:=n+m-i) rfl rfl rfl rfl rfl (aB _ _ _) (by omega) (pV aF rfl rfl rfl hY3 hY1) rfl hY3 (by omega) (by omega) rfl ?_)|(refine jK pk (e:=190) (sz:=11) (rows:=aU (X.take i++aZ (n+m-i) 11) i Y) (new:=X.drop i) (m:=n-i) (n:=n-i) (len:=n-i) rfl rfl rfl rfl rfl (aB _ _ _) (by omega) (lN (k:=k) rfl (.inr ((aD ‹_›).trans ((aD ‹_›).trans (aB _ _ _)))) hxl (by omega) qM hX1 (by omega) (by omega)) (by rw [zld];omega) (λr hr=>hX3 r (List.mem_of_mem_drop hr)) (by omega) (by omega) rfl ?_)|intros;(try simp only [zql]);omega)
 ·have hid1:st id1=none:=hid1
  have hg2:(aU (X++aZ m 11) (i+m) (X.drop i)).length=n+m:=by rw [dX (by rw [zld,hj];omega),hj]
  have hgr:aU (aU (X++aZ m 11) (i+m) (X.drop i)) i Y=(dJ xs i ys).map Pt.cells:=by rw [hzm];exact tK hln (by omega)
  (try apply wO pk;rfl);(repeat' first|exact absurd (show Y=[] by assumption) hYn|(refine aC ?_;refine ⟨_,_,upd (upd st id none) id1 (some (.arr 190 ((dJ xs i ys).map Pt.cells))),rfl,zwr _,nC (by rw [hgr]),id1,(by rw [hzl]),iW hid1,rfl⟩)|apply wD pk [8] [];kernel_rfl;rfl;rfl|show All _;constructor|show Imp _ _;constructor|apply wC pk;rfl;rfl|apply wE pk;rfl;rfl|refine aA rfl ?_ ?_<;>intro h<;>(try simp at h)<;>try omega|apply eQ pk (i) (n-i);(iterate 4 rfl);rotate_left;rfl;(intro _;exact ⟨_,aT rfl rfl,by omega⟩);(intro _;exact ⟨_,bD,by omega⟩);(intro _;omega);(intro _;omega);rfl|apply eQ pk (i) (n+m-i);(iterate 4 rfl);rotate_left;rfl;(intro _;exact ⟨_,aT rfl rfl,by omega⟩);(intro _;exact ⟨_,bD,by omega⟩);(intro _;omega);(intro _;omega);rfl|apply eQ pk (i+m) (n-i);(iterate 4 rfl);rotate_left;rfl;(intro _;exact ⟨_,aT rfl (show _=((i+m:Nat):Int) from by omega),by omega⟩);(intro _;exact ⟨_,bD,by omega⟩);(intro _;omega);(intro _;omega);rfl|(refine ahO pk (rows:=X++aZ m 11) rfl rfl rfl rfl (.inl (aB _ _ _)) (by rw [hj];omega) rfl (λc hc1 hc2=> ?_);rw [hj] at hc1)|apply xD pk (j:=n+m) (rows:=X++aZ m 11);(iterate 4 rfl);rotate_left;rfl;rfl;exact .inl (aB _ _ _);(rw [hj];omega);exact aT rfl (show _=((n+m:Nat):Int) from by omega);(rw [hj];omega)|(refine ovA pk (w:=true) (tS:=78) (tR:=4) (off:=i+m) (len:=n-i) (e:=190) (sz:=11) (rows:=X++aZ m 11) rfl rfl Tryz.func369 (by kernel_rfl) (by kernel_rfl) (by kernel_rfl) (by kernel_rfl) rfl rfl rfl hYc rfl (.inl (aB _ _ _)) (by rw [hj];omega) qM (by omega) ?_ rfl rfl ?_;rotate_left)|(refine jK pk (e:=190) (sz:=11) (rows:=X++aZ m 11) (new:=X.drop i) (m:=n+m-i) (n:=n-i) (len:=n-i) rfl rfl rfl rfl rfl (aB _ _ _) (by rw [hj];omega) (lN (k:=m) rfl (.inl (aB _ _ _)) hxl (by omega) qM hX1 (by omega) (by omega)) (by rw [zld];omega) (λr hr=>hX3 r (List.mem_of_mem_drop hr)) (by omega) (by omega) rfl ?_)|(refine jK pk (e:=190) (sz:=11) (rows:=aU (X++aZ m 11) (i+m) (X.drop i)) (new:=Y) (m:=Y.length) (n:=Y.length) (len:=n+m-i) rfl rfl rfl rfl rfl (aB _ _ _) (by omega) (pV aF rfl rfl rfl hY3 hY1) rfl hY3 (by omega) (by omega) rfl ?_)|intros;(try simp only [zql]);omega)
end Go.Proofs.YtloecjjehapblaaGreatDoor
namespace Go.Proofs.YtloecjjehapblaaGreatDoor
open Go Go.Abs
set_option maxRecDepth 10000
set_option maxHeartbeats 4000000
abbrev R2 :=Int×Int
def r2C (r:R2):List PV:=[(PV.val (Value.int .i64 (r.1))),(PV.val (Value.int .i64 (r.2)))]
def ptP (l:Ln) (c:Int):Option Int:=if 0<=c/\c<l.cells_.length then (if l.cells_[c.toNat]!.val.kind=1 then some l.cells_[c.toNat]!.val.n else none) else none
def eE (G:R2->Bool) (l:Ln) (f:Fr):Bool:=match ptP l f.col with
 |some k=>G (f.table,k)
 |none=>false
theorem zN {G:R2->Bool} {l:Ln} {f:Fr}:eE G l f=true↔∃k,ptP l f.col=some k/\G (f.table,k)=true:=by
 unfold eE
 cases ptP l f.col<;>simp
def chB (s:Sc) (b:Bs) (x y:R2):Prop:=∃k,k<b.length/\∃f∈s[k]!.foreign,∃l∈b[k]!.lines,f.table=x.1/\f.act=1/\ptP l f.col=some x.2/\y=((k:Int),l.key)
def aiC (b:Bs) (k:Nat):List R2:=b[k]!.lines.map λl=>((k:Int),l.key)
def cC (b:Bs):List R2:=(List.range b.length).flatMap (aiC b)
theorem iL {b:Bs} {y:R2}:y∈cC b↔∃k,k<b.length/\∃l∈b[k]!.lines,y=((k:Int),l.key):=by
 simp only [cC,aiC,List.mem_flatMap,List.mem_range,List.mem_map]
 exact ⟨λ⟨k,hk,l,hl,e⟩=>⟨k,hk,l,hl,e.symm⟩,λ⟨k,hk,l,hl,e⟩=>⟨k,hk,l,hl,e.symm⟩⟩
inductive Reach (s:Sc) (b:Bs) (x:R2):R2->Prop
 |refl:Reach s b x x
 |step {y z:R2} (h:Reach s b x y) (c:chB s b y z):Reach s b x z
variable {s:Sc} {b:Bs}
theorem Reach.head {x y z:R2} (c:chB s b x y) (h:Reach s b y z):Reach s b x z:=by
 induction h with
 |refl=>exact .step .refl c
 |step _ c2 ih=>exact .step ih c2
theorem aDJ {x y:R2} (h:chB s b x y):y∈cC b:=by
 obtain ⟨k,hk,f,_,l,hl,_,_,_,e⟩:=h
 exact iL.2 ⟨k,hk,l,hl,e⟩
theorem Reach.row {x y:R2} (hx:x∈cC b) (h:Reach s b x y):y∈cC b:=by
 cases h with
 |refl=>exact hx
 |step _ c=>exact aDJ c
def aDu (s:Sc) (a:Int) (k:Nat):List (Nat×Nat):=((List.range s[k]!.foreign.length).filter λi=>decide (s[k]!.foreign[i]!.table=a)).map λi=>(k,i)
def eR (s:Sc) (a:Int):List (Nat×Nat):=(List.range s.length).flatMap (aDu s a)
theorem lZ {a:Int} {x:Nat×Nat}:x∈eR s a↔x.1<s.length/\x.2<s[x.1]!.foreign.length/\s[x.1]!.foreign[x.2]!.table=a:=by
 simp only [eR,aDu,List.mem_flatMap,List.mem_range,List.mem_map,List.mem_filter,zde]
 constructor
 ·rintro ⟨k,hk,i,⟨hi,e⟩,rfl⟩
  exact ⟨hk,hi,e⟩
 ·rintro ⟨h1,h2,h3⟩
  exact ⟨x.1,h1,x.2,⟨h2,h3⟩,rfl⟩
def goL (F:R2->List R2->List R2) (col key:Int) (k:Nat) (ls:List Ln) (M:List R2):List R2:=ls.foldl (λM l=>if ptP l col=some key then F ((k:Int),l.key) M else M) M
def goK (F:R2->List R2->List R2) (s:Sc) (b:Bs) (key:Int) (ks:List (Nat×Nat)) (M:List R2):List R2:=
 ks.foldl (λM x=>if s[x.1]!.foreign[x.2]!.act=1 then goL F s[x.1]!.foreign[x.2]!.col key x.1 b[x.1]!.lines M else M) M
def gR (s:Sc) (b:Bs):Nat->R2->List R2->List R2
 |0,_,M=>M
 |n+1,x,M=>if x∈M then M else goK (gR s b n) s b x.2 (eR s x.1) (M++[x])
structure Tk (s:Sc) (b:Bs) (C:R2->Prop) (M M':List R2):Prop where
 sub:∀y∈M,y∈M'
 nd:M'.Nodup
 all:∀y∈M',y∈cC b
 new:∀y∈M',y∈M\/∃c,C c/\Reach s b c y
 clo:∀y∈M',y∈M\/∀c,chB s b y c->c∈M'
 me:∀c,C c->c∈M'
theorem Tk.refl {C:R2->Prop} {M:List R2} (hn:M.Nodup) (ha:∀y∈M,y∈cC b) (hC:∀c,C c->c∈M):Tk s b C M M:=⟨λ_ h=>h,hn,ha,λ_ h=> .inl h,λ_ h=> .inl h,hC⟩
theorem Tk.trans {C D:R2->Prop} {M M1 M2:List R2} (h:Tk s b C M M1) (k:Tk s b D M1 M2):Tk s b (λc=>C c\/D c) M M2 where
 sub y hy:=k.sub y (h.sub y hy)
 nd:=k.nd
 all:=k.all
 new y hy:=by
  rcases k.new y hy with q|⟨c,q,r⟩
  ·rcases h.new y q with q|⟨c,q,r⟩
   ·exact .inl q
   ·exact .inr ⟨c, .inl q,r⟩
  ·exact .inr ⟨c, .inr q,r⟩
 clo y hy:=by
  rcases k.clo y hy with q|q
  ·rcases h.clo y q with q|q
   ·exact .inl q
   ·exact .inr λc hc=>k.sub c (q c hc)
  ·exact .inr q
 me c hc:=by
  rcases hc with q|q
  ·exact k.sub c (h.me c q)
  ·exact k.me c q
theorem Tk.imp {C D:R2->Prop} {M M':List R2} (h:Tk s b C M M') (hd:∀c,C c↔D c):Tk s b D M M':=
 ⟨h.sub,h.nd,h.all,λy hy=>(h.new y hy).imp id λ⟨c,q,r⟩=>⟨c,(hd c).1 q,r⟩,h.clo,λc hc=>h.me c ((hd c).2 hc)⟩
theorem sH :∀{M A:List R2},M.Nodup->(∀y∈M,y∈A)->M.length<=A.length
 |[],_,_,_=>Nat.zero_le _
 |x::M,A,hn,hs=>by
  obtain ⟨h1,h2⟩:=List.nodup_cons.1 hn
  have hx:=hs x (by simp)
  have:=sH (A:=A.erase x) h2 λy hy=>(List.mem_erase_of_ne (λe=>h1 (by rw [<-e];exact hy))).2 (hs y (by simp [hy]))
  rw [List.length_erase_of_mem hx] at this
  have:=List.length_pos_of_mem hx
  simp only [zlc];omega
theorem Tk.len {C:R2->Prop} {M M':List R2} (h:Tk s b C M M') (hn:M.Nodup):M.length<=M'.length:=sH hn h.sub
theorem afJ {F:R2->List R2->List R2} {N:Nat} (hF:∀x M,x∈cC b->M.Nodup->(∀y∈M,y∈cC b)->N<=M.length->Tk s b (· =x) M (F x M)) (col key:Int) (k:Nat):∀(ls:List Ln) (M:List R2),(∀l∈ls,((k:Int),l.key)∈cC b)->M.Nodup->(∀y∈M,y∈cC b)->N<=M.length->
  Tk s b (λc=>∃l∈ls,ptP l col=some key/\c=((k:Int),l.key)) M (goL F col key k ls M)
 |[],M,_,hn,ha,_=> .refl hn ha λc h=>by obtain ⟨l,h,_⟩:=h;cases h
 |l::ls,M,hl,hn,ha,hN=>by
  unfold goL
  rw [List.foldl_cons]
  by_cases hp:ptP l col=some key
  ·rw [if_pos hp]
   have h1:=hF _ M (hl l (by simp)) hn ha hN
   have h2:=afJ hF col key k ls _ (λx hx=>hl x (by simp [hx])) h1.nd h1.all (Nat.le_trans hN (h1.len hn))
   refine (h1.trans h2).imp λc=> ?_
   constructor
   ·rintro (rfl|⟨x,hx,q,e⟩)
    ·exact ⟨l,by simp,hp,rfl⟩
    ·exact ⟨x,by simp [hx],q,e⟩
   ·rintro ⟨x,hx,q,e⟩
    rcases zmc.1 hx with rfl|hx
    ·exact .inl e
    ·exact .inr ⟨x,hx,q,e⟩
  ·rw [if_neg hp]
   refine (afJ hF col key k ls _ (λx hx=>hl x (by simp [hx])) hn ha hN).imp λc=> ?_
   constructor
   ·rintro ⟨x,hx,q,e⟩
    exact ⟨x,by simp [hx],q,e⟩
   ·rintro ⟨x,hx,q,e⟩
    rcases zmc.1 hx with rfl|hx
    ·exact absurd q hp
    ·exact ⟨x,hx,q,e⟩
theorem afA {F:R2->List R2->List R2} {N:Nat} (hF:∀x M,x∈cC b->M.Nodup->(∀y∈M,y∈cC b)->N<=M.length->Tk s b (· =x) M (F x M)) (key:Int):∀(ks:List (Nat×Nat)) (M:List R2),(∀x∈ks,x.1<b.length)->M.Nodup->(∀y∈M,y∈cC b)->N<=M.length->
  Tk s b (λc=>∃x∈ks,s[x.1]!.foreign[x.2]!.act=1/\∃l∈b[x.1]!.lines,ptP l s[x.1]!.foreign[x.2]!.col=some key/\c=((x.1:Int),l.key)) M (goK F s b key ks M)
 |[],M,_,hn,ha,_=> .refl hn ha λc h=>by obtain ⟨x,h,_⟩:=h;cases h
 |x::ks,M,hk,hn,ha,hN=>by
  unfold goK
  rw [List.foldl_cons]
  by_cases hp:s[x.1]!.foreign[x.2]!.act=1
  ·rw [if_pos hp]
   have h1:=afJ hF s[x.1]!.foreign[x.2]!.col key x.1 b[x.1]!.lines M (λl hl=>iL.2 ⟨x.1,hk x (by simp),l,hl,rfl⟩) hn ha hN
   have h2:=afA hF key ks _ (λx hx=>hk x (by simp [hx])) h1.nd h1.all (Nat.le_trans hN (h1.len hn))
   refine (h1.trans h2).imp λc=> ?_
   constructor
   ·rintro (q|⟨y,hy,q⟩)
    ·exact ⟨x,by simp,hp,q⟩
    ·exact ⟨y,by simp [hy],q⟩
   ·rintro ⟨y,hy,q,r⟩
    rcases zmc.1 hy with rfl|hy
    ·exact .inl r
    ·exact .inr ⟨y,hy,q,r⟩
  ·rw [if_neg hp]
   refine (afA hF key ks _ (λx hx=>hk x (by simp [hx])) hn ha hN).imp λc=> ?_
   constructor
   ·rintro ⟨y,hy,q⟩
    exact ⟨y,by simp [hy],q⟩
   ·rintro ⟨y,hy,q,r⟩
    rcases zmc.1 hy with rfl|hy
    ·exact absurd q hp
    ·exact ⟨y,hy,q,r⟩
theorem aEb (hb:b.length=s.length) (x c:R2):(∃y∈eR s x.1,s[y.1]!.foreign[y.2]!.act=1/\∃l∈b[y.1]!.lines,ptP l s[y.1]!.foreign[y.2]!.col=some x.2/\c=((y.1:Int),l.key))↔chB s b x c:=by
 constructor
 ·rintro ⟨y,hy,h1,l,hl,h2,e⟩
  obtain ⟨q1,q2,q3⟩:=lZ.1 hy
  exact ⟨y.1,by omega,s[y.1]!.foreign[y.2]!,by rw [getElem!_pos s[y.1]!.foreign y.2 q2];exact zgm q2,l,hl,q3,h1,h2,e⟩
 ·rintro ⟨k,hk,f,hf,l,hl,h1,h2,h3,e⟩
  obtain ⟨i,hi,rfl⟩:=List.getElem_of_mem hf
  have e2:s[k]!.foreign[i]! =s[k]!.foreign[i]:=getElem!_pos ..
  exact ⟨(k,i),lZ.2 ⟨by omega,hi,by rw [e2];exact h1⟩,by rw [e2];exact h2,l,hl,by rw [e2];exact h3,e⟩
theorem abO (hb:b.length=s.length):∀(n:Nat) (x:R2) (M:List R2),x∈cC b->M.Nodup->(∀y∈M,y∈cC b)->(cC b).length+1<=n+M.length->Tk s b (· =x) M (gR s b n x M)
 |0,x,M,_,hn,ha,hN=>by have:=sH hn ha;omega
 |n+1,x,M,hx,hn,ha,hN=>by
  unfold gR
  by_cases hm:x∈M
  ·rw [if_pos hm]
   exact .refl hn ha λc h=>h▸hm
  ·rw [if_neg hm]
   have hn2:(M++[x]).Nodup:=by
    rw [List.nodup_append]
    exact ⟨hn,by simp,λy hy z hz e=>hm (by rw [List.mem_singleton.1 hz] at e;exact e▸hy)⟩
   have ha2:∀y∈M++[x],y∈cC b:=λy hy=>by
    rcases zma.1 hy with q|q
    ·exact ha y q
    ·rw [List.mem_singleton.1 q];exact hx
   have h:=(afA (s:=s) (N:=(cC b).length+1-n) (λy L q1 q2 q3 q4=>abO hb n y L q1 q2 q3 (by omega)) x.2 (eR s x.1) (M++[x]) (λy hy=>by rw [hb];exact (lZ.1 hy).1) hn2 ha2 (by simp;omega)).imp (aEb hb x)
   refine ⟨λy hy=>h.sub y (by simp [hy]),h.nd,h.all,λy hy=> ?_,λy hy=> ?_,λc hc=>h.sub c (by simp [hc])⟩
   ·rcases h.new y hy with q|⟨c,q,r⟩
    ·rcases zma.1 q with q|q
     ·exact .inl q
     ·exact .inr ⟨x,rfl,by rw [List.mem_singleton.1 q];exact .refl⟩
    ·exact .inr ⟨x,rfl, .head q r⟩
   ·rcases h.clo y hy with q|q
    ·rcases zma.1 q with q|q
     ·exact .inl q
     ·rw [List.mem_singleton.1 q];exact .inr λc hc=>h.me c hc
    ·exact .inr q
def avP (s:Sc) (b:Bs) (z:R2):List R2:=gR s b ((cC b).length+1) z []
theorem amD (hb:b.length=s.length) {z:R2} (hz:z∈cC b):Tk s b (· =z) [] (avP s b z):=abO hb _ z [] hz List.nodup_nil (by simp) (by simp)
theorem aC5 (hb:b.length=s.length) {z:R2} (hz:z∈cC b) (y:R2):y∈avP s b z↔Reach s b z y:=by
 have h:=amD hb hz
 constructor
 ·intro hy
  rcases h.new y hy with q|⟨c,rfl,r⟩
  ·cases q
  ·exact r
 ·intro hr
  induction hr with
  |refl=>exact h.me z rfl
  |step _ c ih=>exact ((h.clo _ ih).resolve_left (by simp)) _ c
def xW (x y:R2):Prop:=x.1<y.1\/x.1=y.1/\x.2<y.2
theorem aCl {a b c:R2} (h:xW a b) (k:xW b c):xW a c:=by unfold xW at*;omega
theorem aiD {a:R2}:¬xW a a:=by unfold xW;omega
theorem adA (hs:∀k<b.length,KSort b[k]!.lines):(cC b).Pairwise xW:=by
 unfold cC
 rw [List.pairwise_flatMap]
 constructor
 ·intro k hk
  unfold aiC
  rw [List.pairwise_map]
  exact (List.pairwise_map.1 (hs k (List.mem_range.1 hk))).imp λh=> .inr ⟨rfl,h⟩
 ·refine List.pairwise_lt_range.imp fun {i j} hij x hx y hy=> ?_
  unfold aiC at hx hy
  obtain ⟨_,_,rfl⟩:=List.mem_map.1 hx
  obtain ⟨_,_,rfl⟩:=List.mem_map.1 hy
  exact .inl (by show (i:Int)<j;omega)
theorem acP {L:List R2} (h:L.Pairwise xW):L.Nodup:=h.imp fun {a b} q e=>by subst e;exact aiD q
def aBg (s:Sc) (b:Bs) (z:R2):List R2:=(cC b).filter λy=>decide (y∈avP s b z)
theorem aBQ (hs:∀k<b.length,KSort b[k]!.lines) (z:R2):(aBg s b z).Pairwise xW:=(adA hs).filter _
theorem aA5 (hb:b.length=s.length) {z:R2} (hz:z∈cC b) (y:R2):y∈aBg s b z↔y∈avP s b z:=by
 unfold aBg
 rw [List.mem_filter,zde]
 exact ⟨λh=>h.2,λh=>⟨(amD hb hz).all y h,h⟩⟩
theorem aCa (hb:b.length=s.length) (hs:∀k<b.length,KSort b[k]!.lines) {z:R2} (hz:z∈cC b) {L:List R2} (hL:L.Pairwise xW) (h:∀y,y∈L↔y∈avP s b z):L=aBg s b z:=
 agT (r:=xW) aCl aiD hL (aBQ hs z) λy=>by rw [h,aA5 hb hz]
def toB (t:Tb) (l:Ln) (G:R2->Bool) (act:Int):Bool:=t.foreign.any λf=>eE G l f&&decide (f.act=act)
def inR (rows:List R2) (r:R2):Bool:=decide (r∈rows)
def azQ (s:Sc) (b:Bs) (rows:List R2) (k:Nat):List R2:=(b[k]!.lines.filter λl=>inR rows ((k:Int),l.key)||toB s[k]! l (inR rows) 1).map λl=>((k:Int),l.key)
def xC (s:Sc) (b:Bs) (rows:List R2):List R2:=(List.range b.length).flatMap (azQ s b rows)
theorem asU {t:Tb} {l:Ln} {G:R2->Bool} {act:Int}:toB t l G act=true↔∃f∈t.foreign,eE G l f=true/\f.act=act:=by
 simp [toB,List.any_eq_true]
theorem vO {rows:List R2} {y:R2}:y∈xC s b rows↔(y∈rows/\y∈cC b)\/∃x∈rows,chB s b x y:=by
 simp only [xC,azQ,List.mem_flatMap,List.mem_range,List.mem_map,List.mem_filter,Bool.or_eq_true,inR,zde]
 constructor
 ·rintro ⟨k,hk,l,⟨hl,h|h⟩,rfl⟩
  ·exact .inl ⟨h,iL.2 ⟨k,hk,l,hl,rfl⟩⟩
  ·obtain ⟨f,hf,h1,h2⟩:=asU.1 h
   obtain ⟨key,h3,h4⟩:=zN.1 h1
   exact .inr ⟨(f.table,key),by simpa [inR] using h4,k,hk,f,hf,l,hl,rfl,h2,h3,rfl⟩
 ·rintro (⟨h,hr⟩|⟨x,hx,k,hk,f,hf,l,hl,h1,h2,h3,rfl⟩)
  ·obtain ⟨k,hk,l,hl,rfl⟩:=iL.1 hr
   exact ⟨k,hk,l,⟨hl, .inl h⟩,rfl⟩
  ·exact ⟨k,hk,l,⟨hl, .inr (asU.2 ⟨f,hf,zN.2 ⟨x.2,h3,by simp [inR,h1,hx]⟩,h2⟩)⟩,rfl⟩
theorem uX (hs:∀k<b.length,KSort b[k]!.lines) (rows:List R2):(xC s b rows).Pairwise xW:=by
 refine (adA hs).sublist ?_
 unfold xC cC
 have:∀L:List Nat,(L.flatMap (azQ s b rows)).Sublist (L.flatMap (aiC b)):=λL=>by
  induction L with
  |nil=>exact .slnil
  |cons k L ih=>
   rw [List.flatMap_cons,List.flatMap_cons]
   exact (List.filter_sublist.map _).append ih
 exact this _
structure Mo (s:Sc) (b:Bs) (z:R2) (rows:List R2):Prop where
 nd:rows.Nodup
 me:z∈rows
 re:∀y∈rows,Reach s b z y
theorem Mo.row {z:R2} {rows:List R2} (h:Mo s b z rows) (hz:z∈cC b):∀y∈rows,y∈cC b:=λy hy=>(h.re y hy).row hz
theorem Mo.sub {z:R2} {rows:List R2} (h:Mo s b z rows) (hz:z∈cC b):∀y∈rows,y∈xC s b rows:=λy hy=>vO.2 (.inl ⟨hy,h.row hz y hy⟩)
theorem Mo.more (hs:∀k<b.length,KSort b[k]!.lines) {z:R2} {rows:List R2} (h:Mo s b z rows) (hz:z∈cC b):Mo s b z (xC s b rows):=
 ⟨acP (uX hs rows),h.sub hz z h.me,λy hy=>by
  rcases vO.1 hy with ⟨q,_⟩|⟨x,hx,c⟩
  ·exact h.re y q
  ·exact .step (h.re x hx) c⟩
theorem xJ :∀{M A:List R2},M.Nodup->A.Nodup->(∀y∈M,y∈A)->A.length<=M.length->∀y∈A,y∈M
 |[],A,_,_,_,hl,y,hy=>by cases A with|nil=>cases hy|cons=>simp at hl
 |x::M,A,hn,ha,hs,hl,y,hy=>by
  obtain ⟨h1,h2⟩:=List.nodup_cons.1 hn
  have hx:=hs x (by simp)
  by_cases e:y=x
  ·subst e;simp
  ·refine List.mem_cons_of_mem _ (xJ (A:=A.erase x) h2 (ha.erase x) (λz hz=>(List.mem_erase_of_ne (λe=>h1 (by rw [<-e];exact hz))).2 (hs z (by simp [hz]))) ?_ y ((List.mem_erase_of_ne e).2 hy))
   rw [List.length_erase_of_mem hx]
   simp only [zlc] at hl;omega
theorem Mo.done (hb:b.length=s.length) (hs:∀k<b.length,KSort b[k]!.lines) {z:R2} {rows:List R2} (h:Mo s b z rows) (hz:z∈cC b) (he:(xC s b rows).length=rows.length):xC s b rows=aBg s b z:=by
 have hback:=xJ h.nd (acP (uX hs rows)) (h.sub hz) (Nat.le_of_eq he)
 refine aCa hb hs hz (uX hs rows) λy=> ?_
 rw [aC5 hb hz]
 constructor
 ·exact λhy=>(h.more hs hz).re y hy
 ·intro hr
  induction hr with
  |refl=>exact h.sub hz z h.me
  |step _ c ih=>exact vO.2 (.inr ⟨_,hback _ ih,c⟩)
end Go.Proofs.YtloecjjehapblaaGreatDoor
namespace Go.Proofs.YtloecjjehapblaaGreatDoor
open Go Go.Abs
attribute [local irreducible] Ev PWp
set_option maxRecDepth 10000
set_option maxHeartbeats 4000000
theorem aDe :Tryz.prog.bytesOf 96=16:=by kernel_rfl
theorem aB2 :Tryz.prog.cellsOf 96=2:=by kernel_rfl
theorem anY {l:Ln} {j:Nat} (h:j<l.cells_.length):ptP l j=if l.cells_[j].val.kind=1 then some l.cells_[j].val.n else none:=by
 unfold ptP
 rw [if_pos ⟨by omega,by omega⟩,Int.toNat_natCast,getElem!_pos l.cells_ j h]
theorem afE {l:Ln} {c:Int} (h:¬(0<=c/\c<l.cells_.length)):ptP l c=none:=by unfold ptP;rw [if_neg h]
def xF (l:Ln) (c:Int):Prop:=∀j (h:j<l.cells_.length),(j:Int)=c->l.cells_[j].kind=0
def ptR (o:Option Int):PV:= .tup [(PV.val (Value.int .i64 (o.getD 0))),(PV.val (Value.bool (o.isSome)))]
theorem oM (l:Ln) (c:Int) (h:xF l c):PF Tryz.prog 311 [.agg l.cells,(PV.val (Value.int .i64 (c)))] (ptR (ptP l c)):=by
 by_cases hc:0<=c/\c<l.cells_.length
 ·obtain ⟨j,rfl⟩:∃j:Nat,c=j:=⟨c.toNat,by omega⟩
  have hj:j<l.cells_.length:=by omega
  have hs:=alY l.cells_[j] (h j hj rfl)
  rw [anY hj]
  by_cases hk:l.cells_[j].val.kind=1
  rw [if_pos hk]
  refine aG aF Tryz.func311 (by kernel_rfl) rfl rfl rfl rfl (λst=> ?_)
  rotate_left
  rw [if_neg hk]
  refine aG aF Tryz.func311 (by kernel_rfl) rfl rfl rfl rfl (λst=> ?_)
  rotate_left
  all_goals ((try apply wO pk;rfl);(repeat' first|show All _;constructor|show Imp _ _;constructor|show ImpX _ _ _ _;constructor|apply wC pk;rfl;rfl|apply wE pk;rfl;rfl|refine aA rfl ?_ ?_<;>intro h<;>(try simp at h)<;>try omega|(refine aC ?_;refine ⟨_,_,_,rfl,zwr _,zsr _, ?_,rfl⟩;try rfl)|(apply aH;rfl;rfl;rfl;(intro _;apply hs<;>first|assumption|omega);rotate_left;rfl;rfl)|apply aN pk;(iterate 6 rfl);rotate_left;rfl;(intro hw;rfl);(intro hw;apply aI<;>omega);(intro _;rfl);rfl))
 ·rw [afE hc]
  refine aG aF Tryz.func311 (by kernel_rfl) rfl rfl rfl rfl (λst=> ?_)
  (try apply wO pk;rfl);(repeat' first|show All _;constructor|show Imp _ _;constructor|show ImpX _ _ _ _;constructor|apply wC pk;rfl;rfl|refine aA rfl ?_ ?_<;>intro h<;>(try simp at h)<;>try omega|(refine aC ?_;refine ⟨_,_,_,rfl,zwr _,zsr _, ?_,rfl⟩;try rfl))
theorem adW {G:R2->Bool} {l:Ln} {f:Fr} {k:Int} (h:ptP l f.col=some k):eE G l f=G (f.table,k):=by unfold eE;rw [h]
theorem aeF {G:R2->Bool} {l:Ln} {f:Fr} (h:ptP l f.col=none):eE G l f=false:=by unfold eE;rw [h]
def kkC (x:Nat×Nat):List PV:=[(PV.val (Value.int .i64 ((x.1:Nat)))),(PV.val (Value.int .i64 ((x.2:Nat))))]
def oG (s:Sc) (a:Int) (k y:Nat):List (Nat×Nat):=((List.range y).filter λi=>decide (s[k]!.foreign[i]!.table=a)).map λi=>(k,i)
def pU (s:Sc) (a:Int) (k:Nat):List (Nat×Nat):=(List.range k).flatMap (aDu s a)
theorem aaG {α:Type} (p:α->Bool) (y:α):[y].filter p=if p y=true then [y] else []:=by by_cases h:p y=true<;>simp [h]
theorem aC6 (s:Sc) (a:Int) (k y:Nat):oG s a k (y+1)=if s[k]!.foreign[y]!.table=a then oG s a k y++[(k,y)] else oG s a k y:=by
 unfold oG
 rw [List.range_succ,List.filter_append,List.map_append,aaG]
 by_cases h:s[k]!.foreign[y]!.table=a
 ·rw [if_pos h,if_pos (decide_eq_true h)];rfl
 ·rw [if_neg h,if_neg (by rw [decide_eq_false h];simp)];simp
theorem arJ (s:Sc) (a:Int) (k:Nat):pU s a (k+1)=pU s a k++oG s a k s[k]!.foreign.length:=by
 unfold pU
 rw [List.range_succ,List.flatMap_append]
 simp [aDu,oG]
theorem akE (s:Sc) (a:Int) (k y:Nat):(oG s a k y).length<=y:=by
 unfold oG
 rw [zql]
 exact Nat.le_trans (List.length_filter_le ..) (by simp)
theorem zU (s:Sc) (a:Int) (h:∀k (h:k<s.length),s[k].foreign.length<=16):∀k,k<=s.length->(pU s a k).length<=16*k
 |0,_=>by simp [pU]
 |k+1,hk=>by
  have h1:=zU s a h k (by omega)
  have h2:=akE s a k s[k]!.foreign.length
  have h3:=h k (by omega)
  rw [arJ,zla]
  rw [getElem!_pos s k (by omega)] at h2⊢
  omega
theorem aCj (s:Sc) (a:Int) (hs:s.length<=16) (h16:∀k (h:k<s.length),s[k].foreign.length<=16) (st:aJ):PC Tryz.prog 310 [.agg (scC s),(PV.val (Value.int .i64 (a)))] st λr S=>∃id,r= .vec id 2 0 (eR s a).length/\st id=none/\S=upd st id (some (.arr 96 ((eR s a).map kkC))):=by
 have hlO:=zU s a h16
 refine bZ aF Tryz.func310 (by kernel_rfl) rfl rfl rfl rfl ?_
 focus ((try apply wO pk;rfl);(repeat' (show All _;constructor)))
 refine mV 5 96 2 rfl rfl rfl (λid hid=> ?_)
 refine aK (X:={x:Nat×Nat//x.1<=s.length/\st x.2=none}) (λi=>((((((St.nil 39 (upd st i.1.2 (some (.arr 96 ((pU s a i.1.1).map kkC))))).pv 1 ((PV.val (Value.int .i64 (a))))).pv 5 (.vec i.1.2 2 0 (pU s a i.1.1).length)).pv 11 (.seq (s.map Tb.cells))).pv 12 ((PV.val (Value.int .i64 (((s.map Tb.cells).length:Nat)))))).pv 13 ((PV.val (Value.int .i64 ((i.1.1:Nat))))))) (λi=>s.length-i.1.1) ⟨(0,id),by simp,hid⟩ ?_ (λi=> ?_)
 ·dsimp only
  (((repeat refine Sub.pv ?_ rfl);(exact Sub.nil _ _ _ (zsr _) rfl)))
 obtain ⟨⟨i,id⟩,hi,hid⟩:=i
 simp only at hi hid
 dsimp only
 have hlo:=hlO i hi
 by_cases hend:s.length<=i
 ·obtain rfl:i=s.length:=by omega
  (try apply wO pk;rfl);(repeat' first|show All _;constructor|apply wC pk;rfl;rfl|refine aA rfl ?_ ?_<;>intro h<;>(try simp at h)<;>try omega|(try refine aC ?_);((refine ⟨_,_,_,rfl,zwr _,zsr _, ?_⟩;(exact ⟨id,rfl,hid,rfl⟩);done)))
 have hil:i<s.length:=by omega
 have hf16:=h16 i hil
 have hOU:=arJ s a i
 have hIU:=aC6 s a i
 rw [getElem!_pos s i hil] at hOU hIU
 focus ((try apply wO pk;rfl);(repeat' first|show All _;constructor|show Imp _ _;constructor|apply wC pk;rfl;rfl|apply wE pk;rfl;rfl|refine aA rfl ?_ ?_<;>intro h<;>(try simp at h)<;>try omega|apply aN pk;(iterate 6 rfl);rotate_left;rfl;(intro hw;rfl);(intro hw;apply aI<;>omega);(intro _;rfl);rfl|intros;(try simp only [zql]);omega))
 refine aK (X:={x:Nat×Nat//x.1<=s[i].foreign.length/\st x.2=none}) (λy=>((((((((((St.nil 39 (upd st y.1.2 (some (.arr 96 ((pU s a i++oG s a i y.1.1).map kkC))))).pv 1 ((PV.val (Value.int .i64 (a))))).pv 5 (.vec y.1.2 2 0 (pU s a i++oG s a i y.1.1).length)).pv 6 ((PV.val (Value.int .i64 ((i:Nat)))))).pv 11 (.seq (s.map Tb.cells))).pv 12 ((PV.val (Value.int .i64 (((s.map Tb.cells).length:Nat)))))).pv 13 ((PV.val (Value.int .i64 ((i:Nat)))))).pv 19 (.seq (s[i].foreign.map Fr.cells))).pv 20 ((PV.val (Value.int .i64 (((s[i].foreign.map Fr.cells).length:Nat)))))).pv 21 ((PV.val (Value.int .i64 ((y.1.1:Nat))))))) (λy=>s[i].foreign.length-y.1.1) ⟨(0,id),by simp,hid⟩ ?_ (λy=> ?_)
 ·dsimp only
  have e:pU s a i++oG s a i 0=pU s a i:=by simp [oG]
  rw [e]
  (((repeat refine Sub.pv ?_ rfl);(exact Sub.nil _ _ _ (zsr _) rfl)))
 obtain ⟨⟨y,id⟩,hy,hid⟩:=y
 simp only at hy hid
 dsimp only
 have hli:=akE s a i y
 have hlA:(pU s a i++oG s a i y).length<=1000:=by rw [zla];omega
 by_cases hend2:s[i].foreign.length<=y
 obtain rfl:y=s[i].foreign.length:=by omega
 rw [<-hOU]
 rotate_left
 have hyl:y<s[i].foreign.length:=by omega
 have hIU:=hIU y
 rw [getElem!_pos s[i].foreign y hyl] at hIU
 by_cases hk:s[i].foreign[y].table=a
 rw [if_pos hk] at hIU
 have e:pU s a i++oG s a i (y+1)=(pU s a i++oG s a i y)++[(i,y)]:=by rw [hIU,List.append_assoc]
 have el:(pU s a i++oG s a i (y+1)).length=(pU s a i++oG s a i y).length+1:=by rw [e,zla];rfl
 generalize pU s a i++oG s a i y=A at*
 rotate_left
 rw [if_neg hk] at hIU
 rw [<-hIU]
 rotate_left
 all_goals ((try apply wO pk;rfl);(repeat' first|show All _;constructor|show Imp _ _;constructor|apply wC pk;rfl;rfl|apply wE pk;rfl;rfl|refine aA rfl ?_ ?_<;>intro h<;>(try simp at h)<;>try omega|apply aN pk;(iterate 6 rfl);rotate_left;rfl;(intro hw;rfl);(intro hw;apply aI<;>omega);(intro _;rfl);rfl|(apply apV pk (f:=kkC) [(i,y)] 16;(iterate 9 rfl);(exact aB _ _ _);(omega);exact λ_=>rfl;exact λ_=>rfl;exact aDe;((focus (simp;omega)));((focus (simp;omega)));rfl;intro id' hid')|(first|refine ⟨⟨(i+1,id),by simp only;omega,hid⟩, ?_,by simp only;omega⟩|refine ⟨⟨(y+1,id),by simp only;omega,hid⟩, ?_,by simp only;omega⟩);(((repeat refine Sub.pv ?_ rfl);(exact Sub.nil _ _ _ (zsr _) rfl)))|(refine ⟨⟨(y+1,id'),by simp only;omega,iH hid'⟩, ?_,by simp only;omega⟩;((dsimp only;try rw [e]));(((repeat (first|refine Sub.pv ?_ rfl|refine Sub.pv' ?_ rfl (by (first|rfl|simp;done))));(exact Sub.nil _ _ _ (cQ ‹_›) rfl))))|intros;(try simp only [zql]);omega))
theorem auN (s:Sc) (a:Int) (hs:s.length<=16) (h16:∀k (h:k<s.length),s[k].foreign.length<=16):PF Tryz.prog 310 [.agg (scC s),(PV.val (Value.int .i64 (a)))] (.seq ((eR s a).map kkC)):=λst=>
 gL (sz:=2) (aCj s a hs h16 st) λp st' h=>by
  obtain ⟨id,rfl,h3,rfl⟩:=h
  exact .inl ⟨id,96,(eR s a).map kkC,_,st,aB _ _ _,aB2,gJ rfl,cX h3,rfl,rfl⟩
end Go.Proofs.YtloecjjehapblaaGreatDoor
