import Derived.Test.YtloecjjehapblaaGreatDoorOkAa
import Derived.Test.YtloecjjehapblaaGreatDoorOkAh
import Derived.Test.YtloecjjehapblaaGreatDoorAcK
import Derived.Test.YtloecjjehapblaaGreatDoorAcJ
set_option linter.unusedSimpArgs false
set_option linter.unusedVariables false
namespace Go.Proofs.YtloecjjehapblaaGreatDoor
open Go Go.Abs
section
attribute [local irreducible] Ev PWp
set_option maxRecDepth 10000
set_option maxHeartbeats 4000000
def dP (xs:List Pt) (i:Nat) (ys:List Pt):List Pt:=xs.take i++ys++xs.drop i
theorem ajF (xs:List Pt) (i:Nat) (ys:List Pt):(dP xs i ys).map Pt.cells=(xs.map Pt.cells).take i++ys.map Pt.cells++(xs.map Pt.cells).drop i:=by
 unfold dP
 rw [List.map_append,List.map_append,List.map_take,List.map_drop]
theorem akB {xs:List Pt} {i:Nat} {ys:List Pt} (hi:i<=xs.length):(dP xs i ys).length=xs.length+ys.length:=by
 unfold dP
 simp only [zla,zlt,zld];omega
def aEe (st:aI) (id:Nat) (zs:List Pt) (r:PV) (S:aI):Prop:=∃id',r= .vec id' 11 0 zs.length/\upd st id none id'=none/\S=upd (upd st id none) id' (some (.arr 190 (zs.map Pt.cells)))
theorem ahH (xs ys:List Pt) (i id n:Nat) (st:aI) (hst:st id=some (.arr 190 (xs.map Pt.cells))) (hn:xs.length=n) (hi:i<=n) (hy:ys≠[]) (hl:n+ys.length<1000000000000):PC Tryz.prog 315 [.vec id 11 0 n,(.val (.int .i64 ((i:Nat)))), .seq (ys.map Pt.cells)] st (aEe st id (dP xs i ys)):=by
 obtain ⟨m,hm⟩:∃m,ys.length=m:=⟨_,rfl⟩
 have hln:(ys.map Pt.cells).length=m:=(zql _).trans hm
 have hm0:0<m:=by rw [<-hm];exact List.length_pos_iff.2 hy
 rw [hm] at hl
 have hzl:(dP xs i ys).length=n+m:=by rw [akB (by omega),hn,hm]
 have hzm:=ajF xs i ys
 have hB:=uF
 refine cB aF Tryz.func315 (by kernel_rfl) rfl rfl rfl rfl ?_
 by_cases hin:i=n
 ·subst hin
  have hz:dP xs i ys=xs++ys:=by unfold dP;rw [ztl (by omega),List.drop_of_length_le (by omega),List.append_nil]
  (try apply wO pk;rfl);(repeat' first|exact absurd (show ys=[] by assumption) hy|show Cn _;constructor|apply wC pk;rfl;rfl|apply wE pk;rfl;rfl|refine aB rfl ?_ ?_<;>intro h<;>(try simp at h)<;>try omega|(try refine aC ?_);((refine ⟨_,_,_,rfl,zwr _,zsr _, ?_⟩;(exact ⟨id',(by rw [hzl,hm]),jB hid',(by rw [hz];rfl)⟩);done))|(apply apV pk (f:=Pt.cells) ys 96;(iterate 9 rfl);(assumption);(omega);exact λ_=>rfl;exact λ_=>rfl;exact hB;(omega);(omega);rfl;intro id' hid')|apply asD pk i i;(iterate 4 rfl);rotate_left;rfl;(intro _;exact aU rfl rfl);(intro _;exact bE);(intro _;omega);(intro _;omega);rfl)
 have hlt:i<n:=by omega
 have hxl:(xs.map Pt.cells).length=n:=(zql _).trans hn
 have hX1:∀r∈xs.map Pt.cells,r.all PV.one=true:=λr hr=>by obtain ⟨a,_,rfl⟩:=List.mem_map.1 hr;rfl
 have hX3:∀r∈xs.map Pt.cells,r.length=11:=λr hr=>by obtain ⟨a,_,rfl⟩:=List.mem_map.1 hr;rfl
 have hY1:∀r∈ys.map Pt.cells,r.all PV.one=true:=λr hr=>by obtain ⟨a,_,rfl⟩:=List.mem_map.1 hr;rfl
 have hY3:∀r∈ys.map Pt.cells,r.length=11:=λr hr=>by obtain ⟨a,_,rfl⟩:=List.mem_map.1 hr;rfl
 have hj:∀k,(xs.map Pt.cells++aZ k 11).length=n+k:=λk=>by rw [zla,hxl];unfold aZ;rw [List.length_replicate]
 generalize hXe:xs.map Pt.cells=X at*
 generalize hYe:ys.map Pt.cells=Y at*
 have hYn:Y≠[]:=λe=>by rw [e] at hln;simp at hln;omega
 obtain ⟨yc,ycs,yr,hYc⟩:∃c cs rest,Y=(c::cs)::rest:=by
  cases hY0:Y with
  |nil=>exact absurd hY0 hYn
  |cons a b=>
   cases ha:a with
   |nil=>have:=hY3 a (by rw [hY0];simp);rw [ha] at this;cases this
   |cons c cs=>exact ⟨c,cs,b,rfl⟩
 refine sQ 0 m (id:=id) (rows:=X) rfl hst qY hxl (by omega) (by omega) (λk id1 hk hid1=> ?_) (λid1 hid1=> ?_)
 ·have hid1:st id1=none:=hid1
  have htk:(X++aZ k 11).take i=X.take i:=List.take_append_of_le_length (by omega)
  have hgl:(X.take i++aZ (n+m-i) 11).length=n+m:=by rw [zla,zlt];unfold aZ;rw [List.length_replicate];omega
  have hg2:(aV (X.take i++aZ (n+m-i) 11) i Y).length=n+m:=by rw [dZ (by omega),hgl]
  have hgr:aV (aV (X.take i++aZ (n+m-i) 11) i Y) (i+m) (X.drop i)=(dP xs i ys).map Pt.cells:=by rw [hzm];rw [<-hxl];exact sZ hln (by omega)
  (try apply wO pk;rfl);(repeat' first|exact absurd (show Y=[] by assumption) hYn|(refine aC ?_;refine ⟨_,_,upd (upd st id none) id2 (some (.arr 190 ((dP xs i ys).map Pt.cells))),rfl,zwr _,nH (by rw [hgr]) hid1,id2,(by rw [hzl];congr 1;omega),lR hid2,rfl⟩)|apply wD pk [8] [];kernel_rfl;rfl;rfl|show Cn _;constructor|apply wC pk;rfl;rfl|apply wE pk;rfl;rfl|refine aB rfl ?_ ?_<;>intro h<;>(try simp at h)<;>try omega|(refine ahK pk (rows:=X++aZ k 11) rfl rfl rfl rfl (.inr (aA _ _ _)) (by rw [hj];omega) rfl (λc hc1 hc2=> ?_);have hc3:=hc2 (aA _ _ _);rw [hj] at hc3)|apply xF pk (j:=i) (rows:=X++aZ k 11);(iterate 4 rfl);rotate_left;rfl;rfl;exact .inr (aA _ _ _);(rw [hj];omega);exact aU rfl rfl;(rw [hj];omega)|(refine apZ pk (kq:= .i64) (kn:= .i64) (i:=i) (m:=n+m-i) (sz:=11) (rows:=X++aZ k 11) 96 rfl (congrArg (λz=>some (PV.val (.int .i64 z))) (show _=((n+m-i:Nat):Int) from by omega)) rfl (by kernel_rfl) rfl rfl rfl rfl (aA _ _ _) (by rw [hj];omega) (by rw [hj];omega) (by rw [hj];omega) hB (by omega) (by omega) (by omega) rfl (λid2 hid2=> ?_);rw [htk];have hne:id1≠id2:=(λe=>by rw [<-e] at hid2;have hid2:=(aA _ _ _).symm.trans hid2;cases hid2))|apply eO pk (i) (n+m-i);(iterate 4 rfl);rotate_left;rfl;(intro _;exact ⟨_,aU rfl rfl,by omega⟩);(intro _;exact ⟨_,bE,by omega⟩);(intro _;omega);(intro _;omega);rfl|apply eO pk (i+m) (n-i);(iterate 4 rfl);rotate_left;rfl;(intro _;exact ⟨_,aU rfl (show _=((i+m:Nat):Int) from by omega),by omega⟩);(intro _;exact ⟨_,bE,by omega⟩);(intro _;omega);(intro _;omega);rfl|apply eO pk (i) (n-i);(iterate 4 rfl);rotate_left;rfl;(intro _;exact ⟨_,aU rfl rfl,by omega⟩);(intro _;exact ⟨_,bE,by omega⟩);(intro _;omega);(intro _;omega);rfl|(refine jK pk (e:=190) (sz:=11) (rows:=X.take i++aZ (n+m-i) 11) (new:=Y) (m:=Y.length) (n:=Y.length) (len:=n+m-i) rfl rfl rfl rfl rfl (aA _ _ _) (by omega) (qF aF rfl rfl rfl hY3 hY1) rfl hY3 (by omega) (by omega) rfl ?_)|(refine jK pk (e:=190) (sz:=11) (rows:=aV (X.take i++aZ (n+m-i) 11) i Y) (new:=X.drop i) (m:=n-i) (n:=n-i) (len:=n-i) rfl rfl rfl rfl rfl (aA _ _ _) (by omega) (lQ (k:=k) rfl (.inr ((aD ‹_›).trans ((aD ‹_›).trans (aA _ _ _)))) hxl (by omega) qY hX1 (by omega) (by omega)) (by rw [zld];omega) (λr hr=>hX3 r (List.mem_of_mem_drop hr)) (by omega) (by omega) rfl ?_)|intros;(try simp only [zql]);omega)
 ·have hid1:st id1=none:=hid1
  have hg2:(aV (X++aZ m 11) (i+m) (X.drop i)).length=n+m:=by rw [dZ (by rw [zld,hj];omega),hj]
  have hgr:aV (aV (X++aZ m 11) (i+m) (X.drop i)) i Y=(dP xs i ys).map Pt.cells:=by rw [hzm];exact tW hln (by omega)
  (try apply wO pk;rfl);(repeat' first|exact absurd (show Y=[] by assumption) hYn|(refine aC ?_;refine ⟨_,_,upd (upd st id none) id1 (some (.arr 190 ((dP xs i ys).map Pt.cells))),rfl,zwr _,nG (by rw [hgr]),id1,(by rw [hzl]),jB hid1,rfl⟩)|apply wD pk [8] [];kernel_rfl;rfl;rfl|show Cn _;constructor|apply wC pk;rfl;rfl|apply wE pk;rfl;rfl|refine aB rfl ?_ ?_<;>intro h<;>(try simp at h)<;>try omega|apply eO pk (i) (n-i);(iterate 4 rfl);rotate_left;rfl;(intro _;exact ⟨_,aU rfl rfl,by omega⟩);(intro _;exact ⟨_,bE,by omega⟩);(intro _;omega);(intro _;omega);rfl|apply eO pk (i) (n+m-i);(iterate 4 rfl);rotate_left;rfl;(intro _;exact ⟨_,aU rfl rfl,by omega⟩);(intro _;exact ⟨_,bE,by omega⟩);(intro _;omega);(intro _;omega);rfl|apply eO pk (i+m) (n-i);(iterate 4 rfl);rotate_left;rfl;(intro _;exact ⟨_,aU rfl (show _=((i+m:Nat):Int) from by omega),by omega⟩);(intro _;exact ⟨_,bE,by omega⟩);(intro _;omega);(intro _;omega);rfl|(refine ahK pk (rows:=X++aZ m 11) rfl rfl rfl rfl (.inl (aA _ _ _)) (by rw [hj];omega) rfl (λc hc1 hc2=> ?_);rw [hj] at hc1)|apply xF pk (j:=n+m) (rows:=X++aZ m 11);(iterate 4 rfl);rotate_left;rfl;rfl;exact .inl (aA _ _ _);(rw [hj];omega);exact aU rfl (show _=((n+m:Nat):Int) from by omega);(rw [hj];omega)|(refine ovA pk (w:=true) (tS:=78) (tR:=4) (off:=i+m) (len:=n-i) (e:=190) (sz:=11) (rows:=X++aZ m 11) rfl rfl Tryz.func369 (by kernel_rfl) (by kernel_rfl) (by kernel_rfl) (by kernel_rfl) rfl rfl rfl hYc rfl (.inl (aA _ _ _)) (by rw [hj];omega) qY (by omega) ?_ rfl rfl ?_;rotate_left)|(refine jK pk (e:=190) (sz:=11) (rows:=X++aZ m 11) (new:=X.drop i) (m:=n+m-i) (n:=n-i) (len:=n-i) rfl rfl rfl rfl rfl (aA _ _ _) (by rw [hj];omega) (lQ (k:=m) rfl (.inl (aA _ _ _)) hxl (by omega) qY hX1 (by omega) (by omega)) (by rw [zld];omega) (λr hr=>hX3 r (List.mem_of_mem_drop hr)) (by omega) (by omega) rfl ?_)|(refine jK pk (e:=190) (sz:=11) (rows:=aV (X++aZ m 11) (i+m) (X.drop i)) (new:=Y) (m:=Y.length) (n:=Y.length) (len:=n+m-i) rfl rfl rfl rfl rfl (aA _ _ _) (by omega) (qF aF rfl rfl rfl hY3 hY1) rfl hY3 (by omega) (by omega) rfl ?_)|intros;(try simp only [zql]);omega)
end
section
set_option maxRecDepth 10000
set_option maxHeartbeats 4000000
abbrev R2 :=Int×Int
def r2C (r:R2):List PV:=[(PV.val (Value.int .i64 (r.1))),(PV.val (Value.int .i64 (r.2)))]
def ptP (l:Ln) (c:Int):Option Int:=if 0<=c/\c<l.cells_.length then (if l.cells_[c.toNat]!.val.kind=1 then some l.cells_[c.toNat]!.val.n else none) else none
def eF (G:R2->Bool) (l:Ln) (f:Fr):Bool:=match ptP l f.col with
 |some k=>G (f.table,k)
 |none=>false
theorem zN {G:R2->Bool} {l:Ln} {f:Fr}:eF G l f=true↔∃k,ptP l f.col=some k/\G (f.table,k)=true:=by
 unfold eF
 cases ptP l f.col<;>simp
def chB (s:Sc) (b:Bs) (x y:R2):Prop:=∃k,k<b.length/\∃f∈s[k]!.foreign,∃l∈b[k]!.lines,f.table=x.1/\f.act=1/\ptP l f.col=some x.2/\y=((k:Int),l.key)
def aiB (b:Bs) (k:Nat):List R2:=b[k]!.lines.map λl=>((k:Int),l.key)
def bV (b:Bs):List R2:=(List.range b.length).flatMap (aiB b)
theorem iP {b:Bs} {y:R2}:y∈bV b↔∃k,k<b.length/\∃l∈b[k]!.lines,y=((k:Int),l.key):=by
 simp only [bV,aiB,List.mem_flatMap,List.mem_range,List.mem_map]
 exact ⟨λ⟨k,hk,l,hl,e⟩=>⟨k,hk,l,hl,e.symm⟩,λ⟨k,hk,l,hl,e⟩=>⟨k,hk,l,hl,e.symm⟩⟩
inductive Reach (s:Sc) (b:Bs) (x:R2):R2->Prop
 |refl:Reach s b x x
 |step {y z:R2} (h:Reach s b x y) (c:chB s b y z):Reach s b x z
variable {s:Sc} {b:Bs}
theorem Reach.head {x y z:R2} (c:chB s b x y) (h:Reach s b y z):Reach s b x z:=by
 induction h with
 |refl=>exact .step .refl c
 |step _ c2 ih=>exact .step ih c2
theorem aDE {x y:R2} (h:chB s b x y):y∈bV b:=by
 obtain ⟨k,hk,f,_,l,hl,_,_,_,e⟩:=h
 exact iP.2 ⟨k,hk,l,hl,e⟩
theorem Reach.row {x y:R2} (hx:x∈bV b) (h:Reach s b x y):y∈bV b:=by
 cases h with
 |refl=>exact hx
 |step _ c=>exact aDE c
def aDp (s:Sc) (a:Int) (k:Nat):List (Nat×Nat):=((List.range s[k]!.foreign.length).filter λi=>decide (s[k]!.foreign[i]!.table=a)).map λi=>(k,i)
def eQ (s:Sc) (a:Int):List (Nat×Nat):=(List.range s.length).flatMap (aDp s a)
theorem mB {a:Int} {x:Nat×Nat}:x∈eQ s a↔x.1<s.length/\x.2<s[x.1]!.foreign.length/\s[x.1]!.foreign[x.2]!.table=a:=by
 simp only [eQ,aDp,List.mem_flatMap,List.mem_range,List.mem_map,List.mem_filter,zde]
 constructor
 ·rintro ⟨k,hk,i,⟨hi,e⟩,rfl⟩
  exact ⟨hk,hi,e⟩
 ·rintro ⟨h1,h2,h3⟩
  exact ⟨x.1,h1,x.2,⟨h2,h3⟩,rfl⟩
def goL (F:R2->List R2->List R2) (col key:Int) (k:Nat) (ls:List Ln) (M:List R2):List R2:=ls.foldl (λM l=>if ptP l col=some key then F ((k:Int),l.key) M else M) M
def goK (F:R2->List R2->List R2) (s:Sc) (b:Bs) (key:Int) (ks:List (Nat×Nat)) (M:List R2):List R2:=
 ks.foldl (λM x=>if s[x.1]!.foreign[x.2]!.act=1 then goL F s[x.1]!.foreign[x.2]!.col key x.1 b[x.1]!.lines M else M) M
def gS (s:Sc) (b:Bs):Nat->R2->List R2->List R2
 |0,_,M=>M
 |n+1,x,M=>if x∈M then M else goK (gS s b n) s b x.2 (eQ s x.1) (M++[x])
structure Tk (s:Sc) (b:Bs) (C:R2->Prop) (M M':List R2):Prop where
 sub:∀y∈M,y∈M'
 nd:M'.Nodup
 all:∀y∈M',y∈bV b
 new:∀y∈M',y∈M\/∃c,C c/\Reach s b c y
 clo:∀y∈M',y∈M\/∀c,chB s b y c->c∈M'
 me:∀c,C c->c∈M'
theorem Tk.refl {C:R2->Prop} {M:List R2} (hn:M.Nodup) (ha:∀y∈M,y∈bV b) (hC:∀c,C c->c∈M):Tk s b C M M:=⟨λ_ h=>h,hn,ha,λ_ h=> .inl h,λ_ h=> .inl h,hC⟩
theorem Tk.trans {C D:R2->Prop} {M M1 M2:List R2} (h:Tk s b C M M1) (k:Tk s b D M1 M2):Tk s b (λc=>C c\/D c) M M2 where
 sub y hy:=k.sub y (h.sub y hy)
 nd:=k.nd
 all:=k.all
 new y hy:=by
  rcases k.new y hy with q|⟨c,q,r⟩
  ·rcases h.new y q with q|⟨c,q,r⟩
   ·exact .inl q
   ·exact .inr ⟨c, .inl q,r⟩
  ·exact .inr ⟨c, .inr q,r⟩
 clo y hy:=by
  rcases k.clo y hy with q|q
  ·rcases h.clo y q with q|q
   ·exact .inl q
   ·exact .inr λc hc=>k.sub c (q c hc)
  ·exact .inr q
 me c hc:=by
  rcases hc with q|q
  ·exact k.sub c (h.me c q)
  ·exact k.me c q
theorem Tk.imp {C D:R2->Prop} {M M':List R2} (h:Tk s b C M M') (hd:∀c,C c↔D c):Tk s b D M M':=
 ⟨h.sub,h.nd,h.all,λy hy=>(h.new y hy).imp id λ⟨c,q,r⟩=>⟨c,(hd c).1 q,r⟩,h.clo,λc hc=>h.me c ((hd c).2 hc)⟩
theorem lY :∀{M A:List R2},M.Nodup->(∀y∈M,y∈A)->M.length<=A.length
 |[],_,_,_=>Nat.zero_le _
 |x::M,A,hn,hs=>by
  obtain ⟨h1,h2⟩:=List.nodup_cons.1 hn
  have hx:=hs x (by simp)
  have:=lY (A:=A.erase x) h2 λy hy=>(List.mem_erase_of_ne (λe=>h1 (by rw [<-e];exact hy))).2 (hs y (by simp [hy]))
  rw [List.length_erase_of_mem hx] at this
  have:=List.length_pos_of_mem hx
  simp only [zlc];omega
theorem Tk.len {C:R2->Prop} {M M':List R2} (h:Tk s b C M M') (hn:M.Nodup):M.length<=M'.length:=lY hn h.sub
theorem afC {F:R2->List R2->List R2} {N:Nat} (hF:∀x M,x∈bV b->M.Nodup->(∀y∈M,y∈bV b)->N<=M.length->Tk s b (· =x) M (F x M)) (col key:Int) (k:Nat):∀(ls:List Ln) (M:List R2),(∀l∈ls,((k:Int),l.key)∈bV b)->M.Nodup->(∀y∈M,y∈bV b)->N<=M.length->
  Tk s b (λc=>∃l∈ls,ptP l col=some key/\c=((k:Int),l.key)) M (goL F col key k ls M)
 |[],M,_,hn,ha,_=> .refl hn ha λc h=>by obtain ⟨l,h,_⟩:=h;cases h
 |l::ls,M,hl,hn,ha,hN=>by
  unfold goL
  rw [List.foldl_cons]
  by_cases hp:ptP l col=some key
  ·rw [zp hp]
   have h1:=hF _ M (hl l (by simp)) hn ha hN
   have h2:=afC hF col key k ls _ (λx hx=>hl x (by simp [hx])) h1.nd h1.all (Nat.le_trans hN (h1.len hn))
   refine (h1.trans h2).imp λc=> ?_
   constructor
   ·rintro (rfl|⟨x,hx,q,e⟩)
    ·exact ⟨l,by simp,hp,rfl⟩
    ·exact ⟨x,by simp [hx],q,e⟩
   ·rintro ⟨x,hx,q,e⟩
    rcases zmc.1 hx with rfl|hx
    ·exact .inl e
    ·exact .inr ⟨x,hx,q,e⟩
  ·rw [zn hp]
   refine (afC hF col key k ls _ (λx hx=>hl x (by simp [hx])) hn ha hN).imp λc=> ?_
   constructor
   ·rintro ⟨x,hx,q,e⟩
    exact ⟨x,by simp [hx],q,e⟩
   ·rintro ⟨x,hx,q,e⟩
    rcases zmc.1 hx with rfl|hx
    ·exact absurd q hp
    ·exact ⟨x,hx,q,e⟩
theorem aeU {F:R2->List R2->List R2} {N:Nat} (hF:∀x M,x∈bV b->M.Nodup->(∀y∈M,y∈bV b)->N<=M.length->Tk s b (· =x) M (F x M)) (key:Int):∀(ks:List (Nat×Nat)) (M:List R2),(∀x∈ks,x.1<b.length)->M.Nodup->(∀y∈M,y∈bV b)->N<=M.length->
  Tk s b (λc=>∃x∈ks,s[x.1]!.foreign[x.2]!.act=1/\∃l∈b[x.1]!.lines,ptP l s[x.1]!.foreign[x.2]!.col=some key/\c=((x.1:Int),l.key)) M (goK F s b key ks M)
 |[],M,_,hn,ha,_=> .refl hn ha λc h=>by obtain ⟨x,h,_⟩:=h;cases h
 |x::ks,M,hk,hn,ha,hN=>by
  unfold goK
  rw [List.foldl_cons]
  by_cases hp:s[x.1]!.foreign[x.2]!.act=1
  ·rw [zp hp]
   have h1:=afC hF s[x.1]!.foreign[x.2]!.col key x.1 b[x.1]!.lines M (λl hl=>iP.2 ⟨x.1,hk x (by simp),l,hl,rfl⟩) hn ha hN
   have h2:=aeU hF key ks _ (λx hx=>hk x (by simp [hx])) h1.nd h1.all (Nat.le_trans hN (h1.len hn))
   refine (h1.trans h2).imp λc=> ?_
   constructor
   ·rintro (q|⟨y,hy,q⟩)
    ·exact ⟨x,by simp,hp,q⟩
    ·exact ⟨y,by simp [hy],q⟩
   ·rintro ⟨y,hy,q,r⟩
    rcases zmc.1 hy with rfl|hy
    ·exact .inl r
    ·exact .inr ⟨y,hy,q,r⟩
  ·rw [zn hp]
   refine (aeU hF key ks _ (λx hx=>hk x (by simp [hx])) hn ha hN).imp λc=> ?_
   constructor
   ·rintro ⟨y,hy,q⟩
    exact ⟨y,by simp [hy],q⟩
   ·rintro ⟨y,hy,q,r⟩
    rcases zmc.1 hy with rfl|hy
    ·exact absurd q hp
    ·exact ⟨y,hy,q,r⟩
theorem aD7 (hb:b.length=s.length) (x c:R2):(∃y∈eQ s x.1,s[y.1]!.foreign[y.2]!.act=1/\∃l∈b[y.1]!.lines,ptP l s[y.1]!.foreign[y.2]!.col=some x.2/\c=((y.1:Int),l.key))↔chB s b x c:=by
 constructor
 ·rintro ⟨y,hy,h1,l,hl,h2,e⟩
  obtain ⟨q1,q2,q3⟩:=mB.1 hy
  exact ⟨y.1,by omega,s[y.1]!.foreign[y.2]!,by rw [getElem!_pos s[y.1]!.foreign y.2 q2];exact zgm q2,l,hl,q3,h1,h2,e⟩
 ·rintro ⟨k,hk,f,hf,l,hl,h1,h2,h3,e⟩
  obtain ⟨i,hi,rfl⟩:=zgo hf
  have e2:s[k]!.foreign[i]! =s[k]!.foreign[i]:=getElem!_pos ..
  exact ⟨(k,i),mB.2 ⟨by omega,hi,by rw [e2];exact h1⟩,by rw [e2];exact h2,l,hl,by rw [e2];exact h3,e⟩
theorem abK (hb:b.length=s.length):∀(n:Nat) (x:R2) (M:List R2),x∈bV b->M.Nodup->(∀y∈M,y∈bV b)->(bV b).length+1<=n+M.length->Tk s b (· =x) M (gS s b n x M)
 |0,x,M,_,hn,ha,hN=>by have:=lY hn ha;omega
 |n+1,x,M,hx,hn,ha,hN=>by
  unfold gS
  by_cases hm:x∈M
  ·rw [zp hm]
   exact .refl hn ha λc h=>h▸hm
  ·rw [zn hm]
   have hn2:(M++[x]).Nodup:=by
    rw [List.nodup_append]
    exact ⟨hn,by simp,λy hy z hz e=>hm (by rw [zms.1 hz] at e;exact e▸hy)⟩
   have ha2:∀y∈M++[x],y∈bV b:=λy hy=>by
    rcases zma.1 hy with q|q
    ·exact ha y q
    ·rw [zms.1 q];exact hx
   have h:=(aeU (s:=s) (N:=(bV b).length+1-n) (λy L q1 q2 q3 q4=>abK hb n y L q1 q2 q3 (by omega)) x.2 (eQ s x.1) (M++[x]) (λy hy=>by rw [hb];exact (mB.1 hy).1) hn2 ha2 (by simp;omega)).imp (aD7 hb x)
   refine ⟨λy hy=>h.sub y (by simp [hy]),h.nd,h.all,λy hy=> ?_,λy hy=> ?_,λc hc=>h.sub c (by simp [hc])⟩
   ·rcases h.new y hy with q|⟨c,q,r⟩
    ·rcases zma.1 q with q|q
     ·exact .inl q
     ·exact .inr ⟨x,rfl,by rw [zms.1 q];exact .refl⟩
    ·exact .inr ⟨x,rfl, .head q r⟩
   ·rcases h.clo y hy with q|q
    ·rcases zma.1 q with q|q
     ·exact .inl q
     ·rw [zms.1 q];exact .inr λc hc=>h.me c hc
    ·exact .inr q
def avP (s:Sc) (b:Bs) (z:R2):List R2:=gS s b ((bV b).length+1) z []
theorem amH (hb:b.length=s.length) {z:R2} (hz:z∈bV b):Tk s b (· =z) [] (avP s b z):=abK hb _ z [] hz List.nodup_nil (by simp) (by simp)
theorem aC1 (hb:b.length=s.length) {z:R2} (hz:z∈bV b) (y:R2):y∈avP s b z↔Reach s b z y:=by
 have h:=amH hb hz
 constructor
 ·intro hy
  rcases h.new y hy with q|⟨c,rfl,r⟩
  ·cases q
  ·exact r
 ·intro hr
  induction hr with
  |refl=>exact h.me z rfl
  |step _ c ih=>exact ((h.clo _ ih).resolve_left (by simp)) _ c
def xW (x y:R2):Prop:=x.1<y.1\/x.1=y.1/\x.2<y.2
theorem aCi {a b c:R2} (h:xW a b) (k:xW b c):xW a c:=by unfold xW at*;omega
theorem aiC {a:R2}:¬xW a a:=by unfold xW;omega
theorem acX (hs:∀k<b.length,KSort b[k]!.lines):(bV b).Pairwise xW:=by
 unfold bV
 rw [List.pairwise_flatMap]
 constructor
 ·intro k hk
  unfold aiB
  rw [List.pairwise_map]
  exact (List.pairwise_map.1 (hs k (List.mem_range.1 hk))).imp λh=> .inr ⟨rfl,h⟩
 ·refine List.pairwise_lt_range.imp fun {i j} hij x hx y hy=> ?_
  unfold aiB at hx hy
  obtain ⟨_,_,rfl⟩:=List.mem_map.1 hx
  obtain ⟨_,_,rfl⟩:=List.mem_map.1 hy
  exact .inl (by show (i:Int)<j;omega)
theorem acM {L:List R2} (h:L.Pairwise xW):L.Nodup:=h.imp fun {a b} q e=>by subst e;exact aiC q
def aBe (s:Sc) (b:Bs) (z:R2):List R2:=(bV b).filter λy=>decide (y∈avP s b z)
theorem aBO (hs:∀k<b.length,KSort b[k]!.lines) (z:R2):(aBe s b z).Pairwise xW:=(acX hs).filter _
theorem aA1 (hb:b.length=s.length) {z:R2} (hz:z∈bV b) (y:R2):y∈aBe s b z↔y∈avP s b z:=by
 unfold aBe
 rw [List.mem_filter,zde]
 exact ⟨λh=>h.2,λh=>⟨(amH hb hz).all y h,h⟩⟩
theorem aB7 (hb:b.length=s.length) (hs:∀k<b.length,KSort b[k]!.lines) {z:R2} (hz:z∈bV b) {L:List R2} (hL:L.Pairwise xW) (h:∀y,y∈L↔y∈avP s b z):L=aBe s b z:=
 agP (r:=xW) aCi aiC hL (aBO hs z) λy=>by rw [h,aA1 hb hz]
def toB (t:Tb) (l:Ln) (G:R2->Bool) (act:Int):Bool:=t.foreign.any λf=>eF G l f&&decide (f.act=act)
def inR (rows:List R2) (r:R2):Bool:=decide (r∈rows)
def azN (s:Sc) (b:Bs) (rows:List R2) (k:Nat):List R2:=(b[k]!.lines.filter λl=>inR rows ((k:Int),l.key)||toB s[k]! l (inR rows) 1).map λl=>((k:Int),l.key)
def tU (s:Sc) (b:Bs) (rows:List R2):List R2:=(List.range b.length).flatMap (azN s b rows)
theorem asU {t:Tb} {l:Ln} {G:R2->Bool} {act:Int}:toB t l G act=true↔∃f∈t.foreign,eF G l f=true/\f.act=act:=by
 simp [toB,List.any_eq_true]
theorem vV {rows:List R2} {y:R2}:y∈tU s b rows↔(y∈rows/\y∈bV b)\/∃x∈rows,chB s b x y:=by
 simp only [tU,azN,List.mem_flatMap,List.mem_range,List.mem_map,List.mem_filter,Bool.or_eq_true,inR,zde]
 constructor
 ·rintro ⟨k,hk,l,⟨hl,h|h⟩,rfl⟩
  ·exact .inl ⟨h,iP.2 ⟨k,hk,l,hl,rfl⟩⟩
  ·obtain ⟨f,hf,h1,h2⟩:=asU.1 h
   obtain ⟨key,h3,h4⟩:=zN.1 h1
   exact .inr ⟨(f.table,key),by simpa [inR] using h4,k,hk,f,hf,l,hl,rfl,h2,h3,rfl⟩
 ·rintro (⟨h,hr⟩|⟨x,hx,k,hk,f,hf,l,hl,h1,h2,h3,rfl⟩)
  ·obtain ⟨k,hk,l,hl,rfl⟩:=iP.1 hr
   exact ⟨k,hk,l,⟨hl, .inl h⟩,rfl⟩
  ·exact ⟨k,hk,l,⟨hl, .inr (asU.2 ⟨f,hf,zN.2 ⟨x.2,h3,by simp [inR,h1,hx]⟩,h2⟩)⟩,rfl⟩
theorem vE (hs:∀k<b.length,KSort b[k]!.lines) (rows:List R2):(tU s b rows).Pairwise xW:=by
 refine (acX hs).sublist ?_
 unfold tU bV
 have:∀L:List Nat,(L.flatMap (azN s b rows)).Sublist (L.flatMap (aiB b)):=λL=>by
  induction L with
  |nil=>exact .slnil
  |cons k L ih=>
   rw [List.flatMap_cons,List.flatMap_cons]
   exact (List.filter_sublist.map _).append ih
 exact this _
structure Mo (s:Sc) (b:Bs) (z:R2) (rows:List R2):Prop where
 nd:rows.Nodup
 me:z∈rows
 re:∀y∈rows,Reach s b z y
theorem Mo.row {z:R2} {rows:List R2} (h:Mo s b z rows) (hz:z∈bV b):∀y∈rows,y∈bV b:=λy hy=>(h.re y hy).row hz
theorem Mo.sub {z:R2} {rows:List R2} (h:Mo s b z rows) (hz:z∈bV b):∀y∈rows,y∈tU s b rows:=λy hy=>vV.2 (.inl ⟨hy,h.row hz y hy⟩)
theorem Mo.more (hs:∀k<b.length,KSort b[k]!.lines) {z:R2} {rows:List R2} (h:Mo s b z rows) (hz:z∈bV b):Mo s b z (tU s b rows):=
 ⟨acM (vE hs rows),h.sub hz z h.me,λy hy=>by
  rcases vV.1 hy with ⟨q,_⟩|⟨x,hx,c⟩
  ·exact h.re y q
  ·exact .step (h.re x hx) c⟩
theorem Mo.le {z:R2} {rows:List R2} (h:Mo s b z rows) (hz:z∈bV b):rows.length<=(tU s b rows).length:=lY h.nd (h.sub hz)
theorem Mo.bound {z:R2} {rows:List R2} (h:Mo s b z rows) (hz:z∈bV b):rows.length<=(bV b).length:=lY h.nd (h.row hz)
theorem xL :∀{M A:List R2},M.Nodup->A.Nodup->(∀y∈M,y∈A)->A.length<=M.length->∀y∈A,y∈M
 |[],A,_,_,_,hl,y,hy=>by cases A with|nil=>cases hy|cons=>simp at hl
 |x::M,A,hn,ha,hs,hl,y,hy=>by
  obtain ⟨h1,h2⟩:=List.nodup_cons.1 hn
  have hx:=hs x (by simp)
  by_cases e:y=x
  ·subst e;simp
  ·refine List.mem_cons_of_mem _ (xL (A:=A.erase x) h2 (ha.erase x) (λz hz=>(List.mem_erase_of_ne (λe=>h1 (by rw [<-e];exact hz))).2 (hs z (by simp [hz]))) ?_ y ((List.mem_erase_of_ne e).2 hy))
   rw [List.length_erase_of_mem hx]
   simp only [zlc] at hl;omega
theorem Mo.done (hb:b.length=s.length) (hs:∀k<b.length,KSort b[k]!.lines) {z:R2} {rows:List R2} (h:Mo s b z rows) (hz:z∈bV b) (he:(tU s b rows).length=rows.length):tU s b rows=aBe s b z:=by
 have hback:=xL h.nd (acM (vE hs rows)) (h.sub hz) (Nat.le_of_eq he)
 refine aB7 hb hs hz (vE hs rows) λy=> ?_
 rw [aC1 hb hz]
 constructor
 ·exact λhy=>(h.more hs hz).re y hy
 ·intro hr
  induction hr with
  |refl=>exact h.sub hz z h.me
  |step _ c ih=>exact vV.2 (.inr ⟨_,hback _ ih,c⟩)
end
section
attribute [local irreducible] Ev PWp
set_option maxRecDepth 10000
set_option maxHeartbeats 4000000
theorem r2C.elem :Elem tt 96 r2C (λa=> .agg (r2C a)) 2:=⟨rfl,λ_=>rfl,λ_=>rfl,λ_=>rfl,λ_=>rfl⟩
theorem aDa :Tryz.prog.bytesOf 96=16:=by kernel_rfl
theorem aB0 :Tryz.prog.cellsOf 96=2:=by kernel_rfl
theorem aoC {l:Ln} {j:Nat} (h:j<l.cells_.length):ptP l j=if l.cells_[j].val.kind=1 then some l.cells_[j].val.n else none:=by
 unfold ptP
 rw [zp ⟨by omega,by omega⟩,Int.toNat_natCast,getElem!_pos l.cells_ j h]
theorem aeX {l:Ln} {c:Int} (h:¬(0<=c/\c<l.cells_.length)):ptP l c=none:=by unfold ptP;rw [zn h]
def xH (l:Ln) (c:Int):Prop:=∀j (h:j<l.cells_.length),(j:Int)=c->l.cells_[j].kind=0
def ptR (o:Option Int):PV:= .tup [(PV.val (Value.int .i64 (o.getD 0))),(PV.val (Value.bool (o.isSome)))]
theorem oV (l:Ln) (c:Int) (h:xH l c):PF Tryz.prog 311 [.agg l.cells,(.val (.int .i64 c))] (ptR (ptP l c)):=by
 by_cases hc:0<=c/\c<l.cells_.length
 ·obtain ⟨j,rfl⟩:∃j:Nat,c=j:=⟨c.toNat,by omega⟩
  have hj:j<l.cells_.length:=by omega
  have hs:=amC l.cells_[j] (h j hj rfl)
  rw [aoC hj]
  by_cases hk:l.cells_[j].val.kind=1
  rw [zp hk]
  refine aG aF Tryz.func311 (by kernel_rfl) rfl rfl rfl rfl (λst=> ?_)
  rotate_left
  rw [zn hk]
  refine aG aF Tryz.func311 (by kernel_rfl) rfl rfl rfl rfl (λst=> ?_)
  rotate_left
  all_goals ((try apply wO pk;rfl);(repeat' first|show Cn _;constructor|apply wC pk;rfl;rfl|apply wE pk;rfl;rfl|refine aB rfl ?_ ?_<;>intro h<;>(try simp at h)<;>try omega|(refine aC ?_;refine ⟨_,_,_,rfl,zwr _,zsr _, ?_,rfl⟩;try rfl)|(apply aH;rfl;rfl;rfl;(intro _;apply hs<;>first|assumption|omega);rotate_left;rfl;rfl)|apply aP pk;(iterate 6 rfl);rotate_left;rfl;(intro hw;rfl);(intro hw;apply aJ<;>omega);(intro _;rfl);rfl))
 ·rw [aeX hc]
  refine aG aF Tryz.func311 (by kernel_rfl) rfl rfl rfl rfl (λst=> ?_)
  (try apply wO pk;rfl);(repeat' first|show Cn _;constructor|apply wC pk;rfl;rfl|refine aB rfl ?_ ?_<;>intro h<;>(try simp at h)<;>try omega|(refine aC ?_;refine ⟨_,_,_,rfl,zwr _,zsr _, ?_,rfl⟩;try rfl))
theorem adT {G:R2->Bool} {l:Ln} {f:Fr} {k:Int} (h:ptP l f.col=some k):eF G l f=G (f.table,k):=by unfold eF;rw [h]
theorem aeC {G:R2->Bool} {l:Ln} {f:Fr} (h:ptP l f.col=none):eF G l f=false:=by unfold eF;rw [h]
def kkC (x:Nat×Nat):List PV:=[(PV.val (Value.int .i64 ((x.1:Nat)))),(PV.val (Value.int .i64 ((x.2:Nat))))]
def oO (s:Sc) (a:Int) (k y:Nat):List (Nat×Nat):=((List.range y).filter λi=>decide (s[k]!.foreign[i]!.table=a)).map λi=>(k,i)
def qE (s:Sc) (a:Int) (k:Nat):List (Nat×Nat):=(List.range k).flatMap (aDp s a)
theorem aaF {α:Type} (p:α->Bool) (y:α):[y].filter p=if p y=true then [y] else []:=by by_cases h:p y=true<;>simp [h]
theorem aC2 (s:Sc) (a:Int) (k y:Nat):oO s a k (y+1)=if s[k]!.foreign[y]!.table=a then oO s a k y++[(k,y)] else oO s a k y:=by
 unfold oO
 rw [List.range_succ,List.filter_append,List.map_append,aaF]
 by_cases h:s[k]!.foreign[y]!.table=a
 ·rw [zp h,zp (decide_eq_true h)];rfl
 ·rw [zn h,zn (by rw [decide_eq_false h];simp)];simp
theorem arJ (s:Sc) (a:Int) (k:Nat):qE s a (k+1)=qE s a k++oO s a k s[k]!.foreign.length:=by
 unfold qE
 rw [List.range_succ,List.flatMap_append]
 simp [aDp,oO]
theorem akD (s:Sc) (a:Int) (k y:Nat):(oO s a k y).length<=y:=by
 unfold oO
 rw [zql]
 exact Nat.le_trans (List.length_filter_le ..) (by simp)
theorem zU (s:Sc) (a:Int) (h:∀k (h:k<s.length),s[k].foreign.length<=16):∀k,k<=s.length->(qE s a k).length<=16*k
 |0,_=>by simp [qE]
 |k+1,hk=>by
  have h1:=zU s a h k (by omega)
  have h2:=akD s a k s[k]!.foreign.length
  have h3:=h k (by omega)
  rw [arJ,zla]
  rw [getElem!_pos s k (by omega)] at h2⊢
  omega
theorem aCg (s:Sc) (a:Int) (hs:s.length<=16) (h16:∀k (h:k<s.length),s[k].foreign.length<=16) (st:aI):PC Tryz.prog 310 [.agg (scC s),(.val (.int .i64 a))] st λr S=>∃id,r= .vec id 2 0 (eQ s a).length/\st id=none/\S=upd st id (some (.arr 96 ((eQ s a).map kkC))):=by
 have hlO:=zU s a h16
 refine cB aF Tryz.func310 (by kernel_rfl) rfl rfl rfl rfl ?_
 focus ((try apply wO pk;rfl);(repeat' ((show Cn _;constructor))))
 refine mZ 5 96 2 rfl rfl rfl (λid hid=> ?_)
 refine aK (X:={x:Nat×Nat//x.1<=s.length/\st x.2=none}) (λi=>((((((St.nil 39 (upd st i.1.2 (some (.arr 96 ((qE s a i.1.1).map kkC))))).pv 1 ((PV.val (Value.int .i64 (a))))).pv 5 (.vec i.1.2 2 0 (qE s a i.1.1).length)).pv 11 (.seq (s.map Tb.cells))).pv 12 ((PV.val (Value.int .i64 (((s.map Tb.cells).length:Nat)))))).pv 13 ((PV.val (Value.int .i64 ((i.1.1:Nat))))))) (λi=>s.length-i.1.1) ⟨(0,id),by simp,hid⟩ ?_ (λi=> ?_)
 ·dsimp only
  (((repeat refine Sub.pv ?_ rfl);(exact Sub.nil _ _ _ (zsr _) rfl)))
 obtain ⟨⟨i,id⟩,hi,hid⟩:=i
 simp only at hi hid
 dsimp only
 have hlo:=hlO i hi
 by_cases hend:s.length<=i
 ·obtain rfl:i=s.length:=by omega
  (try apply wO pk;rfl);(repeat' first|show Cn _;constructor|apply wC pk;rfl;rfl|refine aB rfl ?_ ?_<;>intro h<;>(try simp at h)<;>try omega|(try refine aC ?_);((refine ⟨_,_,_,rfl,zwr _,zsr _, ?_⟩;(exact ⟨id,rfl,hid,rfl⟩);done)))
 have hil:i<s.length:=by omega
 have hf16:=h16 i hil
 have hOU:=arJ s a i
 have hIU:=aC2 s a i
 rw [getElem!_pos s i hil] at hOU hIU
 focus ((try apply wO pk;rfl);(repeat' first|show Cn _;constructor|apply wC pk;rfl;rfl|apply wE pk;rfl;rfl|refine aB rfl ?_ ?_<;>intro h<;>(try simp at h)<;>try omega|apply aP pk;(iterate 6 rfl);rotate_left;rfl;(intro hw;rfl);(intro hw;apply aJ<;>omega);(intro _;rfl);rfl|intros;(try simp only [zql]);omega))
 refine aK (X:={x:Nat×Nat//x.1<=s[i].foreign.length/\st x.2=none}) (λy=>((((((((((St.nil 39 (upd st y.1.2 (some (.arr 96 ((qE s a i++oO s a i y.1.1).map kkC))))).pv 1 ((PV.val (Value.int .i64 (a))))).pv 5 (.vec y.1.2 2 0 (qE s a i++oO s a i y.1.1).length)).pv 6 ((PV.val (Value.int .i64 ((i:Nat)))))).pv 11 (.seq (s.map Tb.cells))).pv 12 ((PV.val (Value.int .i64 (((s.map Tb.cells).length:Nat)))))).pv 13 ((PV.val (Value.int .i64 ((i:Nat)))))).pv 19 (.seq (s[i].foreign.map Fr.cells))).pv 20 ((PV.val (Value.int .i64 (((s[i].foreign.map Fr.cells).length:Nat)))))).pv 21 ((PV.val (Value.int .i64 ((y.1.1:Nat))))))) (λy=>s[i].foreign.length-y.1.1) ⟨(0,id),by simp,hid⟩ ?_ (λy=> ?_)
 ·dsimp only
  have e:qE s a i++oO s a i 0=qE s a i:=by simp [oO]
  rw [e]
  (((repeat refine Sub.pv ?_ rfl);(exact Sub.nil _ _ _ (zsr _) rfl)))
 obtain ⟨⟨y,id⟩,hy,hid⟩:=y
 simp only at hy hid
 dsimp only
 have hli:=akD s a i y
 have hlA:(qE s a i++oO s a i y).length<=1000:=by rw [zla];omega
 by_cases hend2:s[i].foreign.length<=y
 obtain rfl:y=s[i].foreign.length:=by omega
 rw [<-hOU]
 rotate_left
 have hyl:y<s[i].foreign.length:=by omega
 have hIU:=hIU y
 rw [getElem!_pos s[i].foreign y hyl] at hIU
 by_cases hk:s[i].foreign[y].table=a
 rw [zp hk] at hIU
 have e:qE s a i++oO s a i (y+1)=(qE s a i++oO s a i y)++[(i,y)]:=by rw [hIU,List.append_assoc]
 have el:(qE s a i++oO s a i (y+1)).length=(qE s a i++oO s a i y).length+1:=by rw [e,zla];rfl
 generalize qE s a i++oO s a i y=A at*
 rotate_left
 rw [zn hk] at hIU
 rw [<-hIU]
 rotate_left
 all_goals ((try apply wO pk;rfl);(repeat' first|show Cn _;constructor|apply wC pk;rfl;rfl|apply wE pk;rfl;rfl|refine aB rfl ?_ ?_<;>intro h<;>(try simp at h)<;>try omega|apply aP pk;(iterate 6 rfl);rotate_left;rfl;(intro hw;rfl);(intro hw;apply aJ<;>omega);(intro _;rfl);rfl|(apply apV pk (f:=kkC) [(i,y)] 16;(iterate 9 rfl);(exact aA _ _ _);(omega);exact λ_=>rfl;exact λ_=>rfl;exact aDa;((focus (simp;omega)));((focus (simp;omega)));rfl;intro id' hid')|(first|refine ⟨⟨(i+1,id),by simp only;omega,hid⟩, ?_,by simp only;omega⟩|refine ⟨⟨(y+1,id),by simp only;omega,hid⟩, ?_,by simp only;omega⟩);(((repeat refine Sub.pv ?_ rfl);(exact Sub.nil _ _ _ (zsr _) rfl)))|(refine ⟨⟨(y+1,id'),by simp only;omega,iL hid'⟩, ?_,by simp only;omega⟩;((dsimp only;try rw [e]));(((repeat (first|refine Sub.pv ?_ rfl|refine Sub.pv' ?_ rfl (by (first|rfl|simp;done))));(exact Sub.nil _ _ _ (cR ‹_›) rfl))))|intros;(try simp only [zql]);omega))
theorem auL (s:Sc) (a:Int) (hs:s.length<=16) (h16:∀k (h:k<s.length),s[k].foreign.length<=16):PF Tryz.prog 310 [.agg (scC s),(.val (.int .i64 a))] (.seq ((eQ s a).map kkC)):=λst=>
 gN (sz:=2) (aCg s a hs h16 st) λp st' h=>by
  obtain ⟨id,rfl,h3,rfl⟩:=h
  exact .inl ⟨id,96,(eQ s a).map kkC,_,st,aA _ _ _,aB0,gL rfl,cY h3,rfl,rfl⟩
def bF (b:Bool):PV:=(PV.val (Value.bool (b)))
def mU (r:R2):Value:= .agg (aeL r).toArray
theorem asS :KeyOK Tryz.prog 96 mU (λr=> .agg (r2C r)):=
 apK aF rfl rfl rfl rfl (λa b=>by
  show some (decide (a.1=b.1)&&decide (a.2=b.2))=_
  rw [Option.some.injEq,Bool.eq_iff_iff]
  simp [Prod.ext_iff]) (by kernel_rfl)
def mE (M:List R2):List (R2×Bool):=M.map λr=>(r,true)
def mM (M:List R2):AObj:= .map (aY mU bF (mE M))
theorem agJ {r:R2}:∀{M:List R2},r∈M->bW r (mE M)=some true
 |x::M,h=>by
  simp only [mE,zmp,bW]
  by_cases e:r=x
  ·rw [zp e]
  ·rw [zn e];exact agJ ((zmc.1 h).resolve_left e)
theorem abH {r:R2}:∀{M:List R2},r∉M->bW r (mE M)=none
 |[],_=>rfl
 |x::M,h=>by
  simp only [mE,zmp,bW]
  rw [zn (λe=>h (by simp [e]))]
  exact abH λhm=>h (by simp [hm])
theorem aiL {r:R2}:∀{M:List R2},r∉M->cX r true (mE M)=mE (M++[r])
 |[],_=>rfl
 |x::M,h=>by
  simp only [mE,zmp,List.cons_append,cX]
  rw [zn (λe=>h (by simp [e]))]
  exact congrArg _ (aiL λhm=>h (by simp [hm]))
theorem aEO {F:R2->List R2->List R2} {col key:Int} {k y:Nat} {ls:List Ln} {M:List R2} (h:y<ls.length):goL F col key k (ls.take (y+1)) M=if ptP ls[y] col=some key then F ((k:Int),ls[y].key) (goL F col key k (ls.take y) M) else goL F col key k (ls.take y) M:=by
 unfold goL
 rw [List.take_succ_eq_append_getElem h,List.foldl_append];rfl
theorem aFq {F:R2->List R2->List R2} {s:Sc} {b:Bs} {key:Int} {i:Nat} {ks:List (Nat×Nat)} {M:List R2} (h:i<ks.length):goK F s b key (ks.take (i+1)) M=if s[ks[i].1]!.foreign[ks[i].2]!.act=1 then goL F s[ks[i].1]!.foreign[ks[i].2]!.col key ks[i].1 b[ks[i].1]!.lines (goK F s b key (ks.take i) M) else goK F s b key (ks.take i) M:=by
 unfold goK
 rw [List.take_succ_eq_append_getElem h,List.foldl_append];rfl
structure Fol (s:Sc) (b:Bs):Prop where
 len:b.length=s.length
 s16:s.length<=16
 f16:∀k (h:k<s.length),s[k].foreign.length<=16
 reg:∀k (h:k<s.length),∀f∈s[k].foreign,∀l∈b[k]!.lines,xH l f.col
 lns:∀k (h:k<b.length),b[k].lines.length<1000000000000
structure KS (s:Sc) (b:Bs) (id9 id4 id5 id10 idm:Nat) (S:aI):Prop where
 h9:S id9=some (.cells 310 [.mref idm])
 h4:S id4=some (.cells 24 (scC s))
 h5:S id5=some (.cells 27 (bsC b))
 h10:S id10=some (.cells 378 [.fn 309 [.ref id9 0, .ref id4 0, .ref id5 0, .ref id10 0]])
 n9:id9≠idm
 n4:id4≠idm
 n5:id5≠idm
 n10:id10≠idm
theorem atN {s:Sc} {b:Bs} (hFo:Fol s b) {id9 id4 id5 id10 idm:Nat} {S:aI} (hK:KS s b id9 id4 id5 id10 idm S):∀(n:Nat) (row:R2) (M:List R2),row∈bV b->M.Nodup->(∀y∈M,y∈bV b)->(bV b).length+1<=n+M.length->
  PC Tryz.prog 309 [.agg (r2C row), .ref id9 0, .ref id4 0, .ref id5 0, .ref id10 0] (upd S idm (some (mM M))) λ_ S'=>S'=upd S idm (some (mM (gS s b n row M))):=by
 obtain ⟨h9,h4,h5,h10,n9,n4,n5,n10⟩:=hK
 obtain ⟨hlen,s16,f16,hreg,hlns⟩:=hFo
 intro n
 induction n with
 |zero=>intro row M hr hn ha hN;exact absurd (lY hn ha) (by omega)
 |succ n ih=>
 intro row M hrow hn ha hN
 by_cases hm:row∈M
 ·have hg:=agJ hm
  have e:gS s b (n+1) row M=M:=zp hm
  rw [e]
  refine cB aF Tryz.func309 (by kernel_rfl) rfl rfl rfl rfl ?_
  (try apply wO pk;rfl);(repeat' first|apply aGq pk asS (f:=bF);(iterate 5 rfl);rotate_left;rfl;exact aA _ _ _;rfl;exact hg|show Cn _;constructor|apply wE pk;rfl;rfl|refine aB rfl ?_ ?_<;>intro h<;>(try simp at h)<;>try omega|(try refine aC ?_);((refine ⟨_,_,_,rfl,zwr _,zsr _, ?_⟩;(rfl);done))|apply ldR pk;rfl;rfl;rotate_left;rfl;((focus ((repeat (first|assumption|refine (aD ‹_›).trans ?_));done)));rfl;rfl)
 ·have hg:=abH hm
  have e:gS s b (n+1) row M=goK (gS s b n) s b row.2 (eQ s row.1) (M++[row]):=zn hm
  rw [e]
  have hks:=auL s row.1 s16 f16
  have hn2:(M++[row]).Nodup:=by
   rw [List.nodup_append]
   exact ⟨hn,by simp,λy hy z hz e=>hm (by rw [zms.1 hz] at e;exact e▸hy)⟩
  have ha2:∀y∈M++[row],y∈bV b:=λy hy=>by
   rcases zma.1 hy with q|q
   ·exact ha y q
   ·rw [zms.1 q];exact hrow
  have hml:(M++[row]).length=M.length+1:=by simp
  have hF:∀x L,x∈bV b->L.Nodup->(∀y∈L,y∈bV b)->(bV b).length+1-n<=L.length->Tk s b (· =x) L (gS s b n x L):=λx L q1 q2 q3 q4=>abK hlen n x L q1 q2 q3 (by omega)
  have hkb:∀x∈eQ s row.1,x.1<b.length:=λx hx=>by rw [hlen];exact (mB.1 hx).1
  have hkl:(eQ s row.1).length<=256:=Nat.le_trans (zU s row.1 f16 s.length (Nat.le_refl _)) (by omega)
  have hsub:StSub (upd S idm (some (mM (goK (gS s b n) s b row.2 ((eQ s row.1).take 0) (M++[row]))))) (upd (upd S idm (some (mM M))) idm (some (.map (aY mU bF (cX row true (mE M)))))):=by
   rw [aiL hm,fG];exact eY rfl
  refine cB aF Tryz.func309 (by kernel_rfl) rfl rfl rfl rfl ?_
  focus ((try apply wO pk;rfl);(repeat' first|apply aGq pk asS (f:=bF);(iterate 5 rfl);rotate_left;rfl;exact aA _ _ _;rfl;exact hg|apply muA pk asS (f:=bF);(exact .inr rfl);(iterate 5 rfl);exact aA _ _ _;rfl|show Cn _;constructor|apply wC pk;rfl;rfl|apply wE pk;rfl;rfl|refine aB rfl ?_ ?_<;>intro h<;>(try simp at h)<;>try omega|(apply aH;rfl;rfl;rfl;(intro _;apply hks<;>first|assumption|omega);rotate_left;rfl;rfl)|apply ldR pk;rfl;rfl;rotate_left;rfl;((focus ((repeat (first|assumption|refine (aD ‹_›).trans ?_));done)));rfl;rfl|apply tC pk 0;(iterate 5 rfl);(focus repeat' constructor);rfl;(intro _;rfl);(intro _;omega);rfl))
  refine aK (X:={x:Nat//x<=(eQ s row.1).length}) (λi=>((((((((St.nil 76 (upd S idm (some (mM (goK (gS s b n) s b row.2 ((eQ s row.1).take i.1) (M++[row])))))).pv 2 (.ref id4 0)).pv 3 (.ref id5 0)).pv 4 (.ref id10 0)).var 5 96 (r2C row)).pv 21 (.seq ((eQ s row.1).map kkC))).pv 22 ((PV.val (Value.int .i64 ((((eQ s row.1).map kkC).length:Nat)))))).pv 23 ((PV.val (Value.int .i64 ((i.1:Nat))))))) (λi=>(eQ s row.1).length-i.1) ⟨0,by omega⟩ ?_ (λi=> ?_)
  ·(repeat (first|refine Sub.pv ?_ rfl|refine Sub.var ?_ rfl rfl));exact Sub.nil _ _ _ hsub rfl
  obtain ⟨i,hi⟩:=i
  dsimp only
  by_cases hend:(eQ s row.1).length<=i
  ·rw [ztl hend]
   (try apply wO pk;rfl);(repeat' first|show Cn _;constructor|apply wC pk;rfl;rfl|apply wX pk;rfl|refine aB rfl ?_ ?_<;>intro h<;>(try simp at h)<;>try omega|(try refine aC ?_);((refine ⟨_,_,_,rfl,zwr _,zsr _, ?_⟩;(rfl);done)))
  have hil:i<(eQ s row.1).length:=by omega
  have hup:=aFq (F:=gS s b n) (s:=s) (b:=b) (key:=row.2) (M:=M++[row]) hil
  have hx:=zgm hil
  obtain ⟨x1,x2,x3⟩:=mB.1 hx
  have htk:=aeU hF row.2 ((eQ s row.1).take i) (M++[row]) (λx hx=>hkb x (List.mem_of_mem_take hx)) hn2 ha2 (by omega)
  have hll:=htk.len hn2
  have htn:=htk.nd
  have hta:=htk.all
  clear htk
  generalize hMi:goK (gS s b n) s b row.2 ((eQ s row.1).take i) (M++[row])=Mi at*
  obtain ⟨⟨k,q⟩,hxx⟩:∃x,(eQ s row.1)[i]=x:=⟨_,rfl⟩
  rw [hxx] at hup x1 x2 x3
  simp only at x1 x2 x3 hup
  have hgk:((eQ s row.1).map kkC)[i]?=some (kkC (k,q)):=by rw [List.getElem?_map,zgg hil,hxx];rfl
  have hkbl:k<b.length:=by omega
  rw [getElem!_pos s k x1] at x2 x3 hup
  rw [getElem!_pos s[k].foreign q x2] at x3 hup
  rw [getElem!_pos b k hkbl] at hup
  have hRg:=hreg k x1 _ (zgm x2)
  rw [getElem!_pos b k hkbl] at hRg
  have hlb:=hlns k hkbl
  by_cases hact:s[k].foreign[q].act=1
  ·rw [zp hact] at hup
   focus ((try apply wO pk;rfl);(repeat' first|apply wD pk [] [1];kernel_rfl;rfl;rfl|show Cn _;constructor|apply wC pk;rfl;rfl|apply wE pk;rfl;rfl|refine aB rfl ?_ ?_<;>intro h<;>(try simp at h)<;>try omega|apply aP pk;(iterate 6 rfl);rotate_left;rfl;(first|(intro hw;rfl);(intro hw;apply hgk<;>omega);(intro _;rfl)|(intro hw;rfl);(intro hw;apply aJ<;>omega);(intro _;rfl));rfl|apply ldR pk;rfl;rfl;rotate_left;rfl;((focus ((repeat (first|assumption|refine (aD ‹_›).trans ?_));done)));rfl;rfl|apply tC pk 0;(iterate 5 rfl);(focus repeat' constructor);rfl;(intro _;rfl);(intro _;omega);rfl|apply tC pk 1;(iterate 5 rfl);(focus repeat' constructor);rfl;(intro _;rfl);(intro _;omega);rfl|intros;(try simp only [zql]);omega))
   have hsub2:StSub (upd S idm (some (mM (goL (gS s b n) s[k].foreign[q].col row.2 k (b[k].lines.take 0) Mi)))) (upd S idm (some (mM Mi))):=eY rfl
   refine aK (X:={x:Nat//x<=b[k].lines.length}) (λy=>(((((((((((((St.nil 76 (upd S idm (some (mM (goL (gS s b n) s[k].foreign[q].col row.2 k (b[k].lines.take y.1) Mi))))).pv 2 (.ref id4 0)).pv 3 (.ref id5 0)).pv 4 (.ref id10 0)).var 5 96 (r2C row)).var 7 96 (kkC (k,q))).var 8 182 (s[k].foreign[q].cells)).pv 21 (.seq ((eQ s row.1).map kkC))).pv 22 ((PV.val (Value.int .i64 ((((eQ s row.1).map kkC).length:Nat)))))).pv 23 ((PV.val (Value.int .i64 ((i:Nat)))))).pv 47 (.seq (b[k].lines.map Ln.cells))).pv 48 ((PV.val (Value.int .i64 (((b[k].lines.map Ln.cells).length:Nat)))))).pv 49 ((PV.val (Value.int .i64 ((y.1:Nat))))))) (λy=>b[k].lines.length-y.1) ⟨0,by omega⟩ ?_ (λy=> ?_)
   ·(repeat (first|refine Sub.pv ?_ rfl|refine Sub.var ?_ rfl rfl));exact Sub.nil _ _ _ hsub2 rfl
   obtain ⟨y,hy⟩:=y
   dsimp only
   by_cases hend2:b[k].lines.length<=y
   ·rw [ztl hend2]
    (try apply wO pk;rfl);(repeat' first|show Cn _;constructor|apply wC pk;rfl;rfl|refine aB rfl ?_ ?_<;>intro h<;>(try simp at h)<;>try omega|(refine ⟨⟨i+1,by omega⟩, ?_,by simp only;omega⟩;((dsimp only;try rw [hup]));((repeat (first|refine Sub.pv ?_ rfl|refine Sub.var ?_ rfl rfl));exact Sub.nil _ _ _ (zsr _) rfl))|intros;(try simp only [zql]);omega)
   have hyl:y<b[k].lines.length:=by omega
   have hgu:=aEO (F:=gS s b n) (col:=s[k].foreign[q].col) (key:=row.2) (k:=k) (M:=Mi) hyl
   have hp:=oV b[k].lines[y] s[k].foreign[q].col (hRg _ (zgm hyl))
   have htk:=afC hF s[k].foreign[q].col row.2 k (b[k].lines.take y) Mi (λl hl=>iP.2 ⟨k,hkbl,l,by rw [getElem!_pos b k hkbl];exact List.mem_of_mem_take hl,rfl⟩) htn hta (by omega)
   have hl2:=htk.len htn
   have htn2:=htk.nd
   have hta2:=htk.all
   clear htk
   generalize hMy:goL (gS s b n) s[k].foreign[q].col row.2 k (b[k].lines.take y) Mi=My at*
   have hrow2:((k:Int),b[k].lines[y].key)∈bV b:=iP.2 ⟨k,hkbl,b[k].lines[y],by rw [getElem!_pos b k hkbl];exact zgm hyl,rfl⟩
   have hC:=ih ((k:Int),b[k].lines[y].key) My hrow2 htn2 hta2 (by omega)
   cases hpt:ptP b[k].lines[y] s[k].foreign[q].col with
   |none=>
    rw [hpt] at hp hgu
    rw [zn (by simp)] at hgu
    (try apply wO pk;rfl);(repeat' first|show Cn _;constructor|apply wC pk;rfl;rfl|apply wE pk;rfl;rfl|refine aB rfl ?_ ?_<;>intro h<;>(try simp at h)<;>try omega|(apply aH;rfl;rfl;rfl;(intro _;apply hp<;>first|assumption|omega);rotate_left;rfl;rfl)|apply aP pk;(iterate 6 rfl);rotate_left;rfl;(intro hw;rfl);(intro hw;apply aJ<;>omega);(intro _;rfl);rfl|apply tC pk 1;(iterate 5 rfl);(focus repeat' constructor);rfl;(intro _;rfl);(intro _;omega);rfl|(refine ⟨⟨y+1,by omega⟩, ?_,by simp only;omega⟩;((dsimp only;try rw [hgu]));(((repeat (first|refine Sub.pv ?_ rfl|refine Sub.var ?_ rfl rfl));(exact Sub.nil _ _ _ (zsr _) rfl))))|intros;(try simp only [zql]);omega)
   |some v=>
    rw [hpt] at hp hgu
    by_cases hv:v=row.2
    ·subst hv
     rw [zp rfl] at hgu
     (try apply wO pk;rfl);(repeat' first|show Cn _;constructor|apply wC pk;rfl;rfl|apply wE pk;rfl;rfl|refine aB rfl ?_ ?_<;>intro h<;>(try simp at h)<;>try omega|(apply aH;rfl;rfl;rfl;(intro _;apply hp<;>first|assumption|omega);rotate_left;rfl;rfl)|apply aP pk;(iterate 6 rfl);rotate_left;rfl;(intro hw;rfl);(intro hw;apply aJ<;>omega);(intro _;rfl);rfl|apply ldR pk;rfl;rfl;rotate_left;rfl;((focus ((repeat (first|assumption|refine (aD ‹_›).trans ?_));done)));rfl;rfl|(apply cD;rfl;rfl;(apply hC<;>first|exact aA _ _ _|assumption|omega|(fail));rfl;rfl;rfl;intro _ st' hR;obtain rfl:=hR)|apply tC pk 0;(iterate 5 rfl);(focus repeat' constructor);rfl;(intro _;rfl);(intro _;omega);rfl|apply tC pk 1;(iterate 5 rfl);(focus repeat' constructor);rfl;(intro _;rfl);(intro _;omega);rfl|(refine ⟨⟨y+1,by omega⟩, ?_,by simp only;omega⟩;((dsimp only;try rw [hgu]));(((repeat (first|refine Sub.pv ?_ rfl|refine Sub.var ?_ rfl rfl));(exact Sub.nil _ _ _ (zsr _) rfl))))|intros;(try simp only [zql]);omega)
    ·rw [zn (by simpa using hv)] at hgu
     (try apply wO pk;rfl);(repeat' first|show Cn _;constructor|apply wC pk;rfl;rfl|apply wE pk;rfl;rfl|refine aB rfl ?_ ?_<;>intro h<;>(try simp at h)<;>try omega|(apply aH;rfl;rfl;rfl;(intro _;apply hp<;>first|assumption|omega);rotate_left;rfl;rfl)|apply aP pk;(iterate 6 rfl);rotate_left;rfl;(intro hw;rfl);(intro hw;apply aJ<;>omega);(intro _;rfl);rfl|apply tC pk 1;(iterate 5 rfl);(focus repeat' constructor);rfl;(intro _;rfl);(intro _;omega);rfl|(refine ⟨⟨y+1,by omega⟩, ?_,by simp only;omega⟩;((dsimp only;try rw [hgu]));(((repeat (first|refine Sub.pv ?_ rfl|refine Sub.var ?_ rfl rfl));(exact Sub.nil _ _ _ (zsr _) rfl))))|intros;(try simp only [zql]);omega)
  ·rw [zn hact] at hup
   (try apply wO pk;rfl);(repeat' first|apply wD pk [] [1];kernel_rfl;rfl;rfl|show Cn _;constructor|apply wC pk;rfl;rfl|apply wE pk;rfl;rfl|refine aB rfl ?_ ?_<;>intro h<;>(try simp at h)<;>try omega|apply aP pk;(iterate 6 rfl);rotate_left;rfl;(first|(intro hw;rfl);(intro hw;apply hgk<;>omega);(intro _;rfl)|(intro hw;rfl);(intro hw;apply aJ<;>omega);(intro _;rfl));rfl|apply ldR pk;rfl;rfl;rotate_left;rfl;((focus ((repeat (first|assumption|refine (aD ‹_›).trans ?_));done)));rfl;rfl|apply tC pk 0;(iterate 5 rfl);(focus repeat' constructor);rfl;(intro _;rfl);(intro _;omega);rfl|apply tC pk 1;(iterate 5 rfl);(focus repeat' constructor);rfl;(intro _;rfl);(intro _;omega);rfl|(refine ⟨⟨i+1,by omega⟩, ?_,by simp only;omega⟩;((dsimp only;try rw [hup]));(((repeat (first|refine Sub.pv ?_ rfl|refine Sub.var ?_ rfl rfl));(exact Sub.nil _ _ _ (zsr _) rfl))))|intros;(try simp only [zql]);omega)
end
end Go.Proofs.YtloecjjehapblaaGreatDoor
