import Derived.Test.YtddmbnddgiebgaaGreatDoorBsMap
import Derived.Test.YtddmbnddgiebgaaGreatDoorBsPutS
import Derived.Test.YtddmbnddgiebgaaGreatDoorAbsJ
set_option linter.unusedSimpArgs false
set_option linter.unusedVariables false
namespace Go.Proofs.YtddmbnddgiebgaaGreatDoor
open Go Go.Abs
abbrev R2 :=Int×Int
def r2C (r:R2):List PV:=[(PV.val (Value.int .i64 (r.1))),(PV.val (Value.int .i64 (r.2)))]
def ptP (l:Ln) (c:Int):Option Int:=if 0≤c∧c<l.cells_.length then (if l.cells_[c.toNat]!.val.kind=1 then some l.cells_[c.toNat]!.val.n else none) else none
def bI (G:R2→Bool) (l:Ln) (f:Fr):Bool:=match ptP l f.col with
  |some k=>G (f.table,k)
  |none=>false
theorem gT {G:R2→Bool} {l:Ln} {f:Fr}:bI G l f=true↔∃k,ptP l f.col=some k∧G (f.table,k)=true:=by
  unfold bI
  cases ptP l f.col<;>simp
def chB (s:Sc) (b:Bs) (x y:R2):Prop:=∃k,k<b.length∧∃f∈s[k]!.foreign,∃l∈b[k]!.lines,f.table=x.1∧f.act=1∧ptP l f.col=some x.2∧y=((k:Int),l.key)
def qE (b:Bs) (k:Nat):List R2:=b[k]!.lines.map fun l=>((k:Int),l.key)
def bR (b:Bs):List R2:=(List.range b.length).flatMap (qE b)
theorem eM {b:Bs} {y:R2}:y∈bR b↔∃k,k<b.length∧∃l∈b[k]!.lines,y=((k:Int),l.key):=by
  simp only [bR,qE,List.mem_flatMap,List.mem_range,List.mem_map]
  exact ⟨fun ⟨k,hk,l,hl,e⟩=>⟨k,hk,l,hl,e.symm⟩,fun ⟨k,hk,l,hl,e⟩=>⟨k,hk,l,hl,e.symm⟩⟩
inductive Reach (s:Sc) (b:Bs) (x:R2):R2→Prop
  |refl:Reach s b x x
  |step {y z:R2} (h:Reach s b x y) (c:chB s b y z):Reach s b x z
variable {s:Sc} {b:Bs}
theorem Reach.head {x y z:R2} (c:chB s b x y) (h:Reach s b y z):Reach s b x z:=by
  induction h with
  |refl=>exact .step .refl c
  |step _ c2 ih=>exact .step ih c2
theorem aqT {x y:R2} (h:chB s b x y):y∈bR b:=by
  obtain ⟨k,hk,f,_,l,hl,_,_,_,e⟩:=h
  exact eM.2 ⟨k,hk,l,hl,e⟩
theorem Reach.row {x y:R2} (hx:x∈bR b) (h:Reach s b x y):y∈bR b:=by
  cases h with
  |refl=>exact hx
  |step _ c=>exact aqT c
def aqK (s:Sc) (a:Int) (k:Nat):List (Nat×Nat):=((List.range s[k]!.foreign.length).filter fun i=>decide (s[k]!.foreign[i]!.table=a)).map fun i=>(k,i)
def dW (s:Sc) (a:Int):List (Nat×Nat):=(List.range s.length).flatMap (aqK s a)
theorem iU {a:Int} {x:Nat×Nat}:x∈dW s a↔x.1<s.length∧x.2<s[x.1]!.foreign.length∧s[x.1]!.foreign[x.2]!.table=a:=by
  simp only [dW,aqK,List.mem_flatMap,List.mem_range,List.mem_map,List.mem_filter,decide_eq_true_eq]
  constructor
  · rintro ⟨k,hk,i,⟨hi,e⟩,rfl⟩
    exact ⟨hk,hi,e⟩
  · rintro ⟨h1,h2,h3⟩
    exact ⟨x.1,h1,x.2,⟨h2,h3⟩,rfl⟩
def goL (F:R2→List R2→List R2) (col key:Int) (k:Nat) (ls:List Ln) (M:List R2):List R2:=ls.foldl (fun M l=>if ptP l col=some key then F ((k:Int),l.key) M else M) M
def goK (F:R2→List R2→List R2) (s:Sc) (b:Bs) (key:Int) (ks:List (Nat×Nat)) (M:List R2):List R2:=
  ks.foldl (fun M x=>if s[x.1]!.foreign[x.2]!.act=1 then goL F s[x.1]!.foreign[x.2]!.col key x.1 b[x.1]!.lines M else M) M
def fH (s:Sc) (b:Bs):Nat→R2→List R2→List R2
  |0,_,M=>M
  |n+1,x,M=>if x∈M then M else goK (fH s b n) s b x.2 (dW s x.1) (M++[x])
structure Tk (s:Sc) (b:Bs) (C:R2→Prop) (M M':List R2):Prop where
  sub:∀y∈M,y∈M'
  nd:M'.Nodup
  all:∀y∈M',y∈bR b
  new:∀y∈M',y∈M∨∃c,C c∧Reach s b c y
  clo:∀y∈M',y∈M∨∀c,chB s b y c→c∈M'
  me:∀c,C c→c∈M'
theorem Tk.refl {C:R2→Prop} {M:List R2} (hn:M.Nodup) (ha:∀y∈M,y∈bR b) (hC:∀c,C c→c∈M):Tk s b C M M:=⟨fun _ h=>h,hn,ha,fun _ h=> .inl h,fun _ h=> .inl h,hC⟩
theorem Tk.trans {C D:R2→Prop} {M M1 M2:List R2} (h:Tk s b C M M1) (k:Tk s b D M1 M2):Tk s b (fun c=>C c∨D c) M M2 where
  sub y hy:=k.sub y (h.sub y hy)
  nd:=k.nd
  all:=k.all
  new y hy:=by
    rcases k.new y hy with q|⟨c,q,r⟩
    · rcases h.new y q with q|⟨c,q,r⟩
      · exact .inl q
      · exact .inr ⟨c, .inl q,r⟩
    · exact .inr ⟨c, .inr q,r⟩
  clo y hy:=by
    rcases k.clo y hy with q|q
    · rcases h.clo y q with q|q
      · exact .inl q
      · exact .inr fun c hc=>k.sub c (q c hc)
    · exact .inr q
  me c hc:=by
    rcases hc with q|q
    · exact k.sub c (h.me c q)
    · exact k.me c q
theorem Tk.imp {C D:R2→Prop} {M M':List R2} (h:Tk s b C M M') (hd:∀c,C c↔D c):Tk s b D M M':=
  ⟨h.sub,h.nd,h.all,fun y hy=>(h.new y hy).imp id fun ⟨c,q,r⟩=>⟨c,(hd c).1 q,r⟩,h.clo,fun c hc=>h.me c ((hd c).2 hc)⟩
theorem gP :∀{M A:List R2},M.Nodup→(∀y∈M,y∈A)→M.length≤A.length
  |[],_,_,_=>Nat.zero_le _
  |x::M,A,hn,hs=>by
    obtain ⟨h1,h2⟩:=List.nodup_cons.1 hn
    have hx:=hs x (by simp)
    have:=gP (A:=A.erase x) h2 fun y hy=>(List.mem_erase_of_ne (fun e=>h1 (by rw [←e];exact hy))).2 (hs y (by simp [hy]))
    rw [List.length_erase_of_mem hx] at this
    have:=List.length_pos_of_mem hx
    simp only [List.length_cons];omega
theorem Tk.len {C:R2→Prop} {M M':List R2} (h:Tk s b C M M') (hn:M.Nodup):M.length≤M'.length:=gP hn h.sub
theorem wP {F:R2→List R2→List R2} {N:Nat} (hF:∀x M,x∈bR b→M.Nodup→(∀y∈M,y∈bR b)→N≤M.length→Tk s b (· =x) M (F x M)) (col key:Int) (k:Nat):∀(ls:List Ln) (M:List R2),(∀l∈ls,((k:Int),l.key)∈bR b)→M.Nodup→(∀y∈M,y∈bR b)→N≤M.length→
    Tk s b (fun c=>∃l∈ls,ptP l col=some key∧c=((k:Int),l.key)) M (goL F col key k ls M)
  |[],M,_,hn,ha,_=> .refl hn ha fun c h=>by obtain ⟨l,h,_⟩:=h;cases h
  |l::ls,M,hl,hn,ha,hN=>by
    unfold goL
    rw [List.foldl_cons]
    by_cases hp:ptP l col=some key
    · rw [if_pos hp]
      have h1:=hF _ M (hl l (by simp)) hn ha hN
      have h2:=wP hF col key k ls _ (fun x hx=>hl x (by simp [hx])) h1.nd h1.all (Nat.le_trans hN (h1.len hn))
      refine (h1.trans h2).imp fun c=> ?_
      constructor
      · rintro (rfl|⟨x,hx,q,e⟩)
        · exact ⟨l,by simp,hp,rfl⟩
        · exact ⟨x,by simp [hx],q,e⟩
      · rintro ⟨x,hx,q,e⟩
        rcases List.mem_cons.1 hx with rfl|hx
        · exact .inl e
        · exact .inr ⟨x,hx,q,e⟩
    · rw [if_neg hp]
      refine (wP hF col key k ls _ (fun x hx=>hl x (by simp [hx])) hn ha hN).imp fun c=> ?_
      constructor
      · rintro ⟨x,hx,q,e⟩
        exact ⟨x,by simp [hx],q,e⟩
      · rintro ⟨x,hx,q,e⟩
        rcases List.mem_cons.1 hx with rfl|hx
        · exact absurd q hp
        · exact ⟨x,hx,q,e⟩
theorem wJ {F:R2→List R2→List R2} {N:Nat} (hF:∀x M,x∈bR b→M.Nodup→(∀y∈M,y∈bR b)→N≤M.length→Tk s b (· =x) M (F x M)) (key:Int):∀(ks:List (Nat×Nat)) (M:List R2),(∀x∈ks,x.1<b.length)→M.Nodup→(∀y∈M,y∈bR b)→N≤M.length→
    Tk s b (fun c=>∃x∈ks,s[x.1]!.foreign[x.2]!.act=1∧∃l∈b[x.1]!.lines,ptP l s[x.1]!.foreign[x.2]!.col=some key∧c=((x.1:Int),l.key)) M (goK F s b key ks M)
  |[],M,_,hn,ha,_=> .refl hn ha fun c h=>by obtain ⟨x,h,_⟩:=h;cases h
  |x::ks,M,hk,hn,ha,hN=>by
    unfold goK
    rw [List.foldl_cons]
    by_cases hp:s[x.1]!.foreign[x.2]!.act=1
    · rw [if_pos hp]
      have h1:=wP hF s[x.1]!.foreign[x.2]!.col key x.1 b[x.1]!.lines M (fun l hl=>eM.2 ⟨x.1,hk x (by simp),l,hl,rfl⟩) hn ha hN
      have h2:=wJ hF key ks _ (fun x hx=>hk x (by simp [hx])) h1.nd h1.all (Nat.le_trans hN (h1.len hn))
      refine (h1.trans h2).imp fun c=> ?_
      constructor
      · rintro (q|⟨y,hy,q⟩)
        · exact ⟨x,by simp,hp,q⟩
        · exact ⟨y,by simp [hy],q⟩
      · rintro ⟨y,hy,q,r⟩
        rcases List.mem_cons.1 hy with rfl|hy
        · exact .inl r
        · exact .inr ⟨y,hy,q,r⟩
    · rw [if_neg hp]
      refine (wJ hF key ks _ (fun x hx=>hk x (by simp [hx])) hn ha hN).imp fun c=> ?_
      constructor
      · rintro ⟨y,hy,q⟩
        exact ⟨y,by simp [hy],q⟩
      · rintro ⟨y,hy,q,r⟩
        rcases List.mem_cons.1 hy with rfl|hy
        · exact absurd q hp
        · exact ⟨y,hy,q,r⟩
theorem arN (hb:b.length=s.length) (x c:R2):(∃y∈dW s x.1,s[y.1]!.foreign[y.2]!.act=1∧∃l∈b[y.1]!.lines,ptP l s[y.1]!.foreign[y.2]!.col=some x.2∧c=((y.1:Int),l.key))↔chB s b x c:=by
  constructor
  · rintro ⟨y,hy,h1,l,hl,h2,e⟩
    obtain ⟨q1,q2,q3⟩:=iU.1 hy
    exact ⟨y.1,by omega,s[y.1]!.foreign[y.2]!,by rw [getElem!_pos s[y.1]!.foreign y.2 q2];exact List.getElem_mem q2,l,hl,q3,h1,h2,e⟩
  · rintro ⟨k,hk,f,hf,l,hl,h1,h2,h3,e⟩
    obtain ⟨i,hi,rfl⟩:=List.getElem_of_mem hf
    have e2:s[k]!.foreign[i]! =s[k]!.foreign[i]:=getElem!_pos ..
    exact ⟨(k,i),iU.2 ⟨by omega,hi,by rw [e2];exact h1⟩,by rw [e2];exact h2,l,hl,by rw [e2];exact h3,e⟩
theorem tX (hb:b.length=s.length):∀(n:Nat) (x:R2) (M:List R2),x∈bR b→M.Nodup→(∀y∈M,y∈bR b)→(bR b).length+1≤n+M.length→Tk s b (· =x) M (fH s b n x M)
  |0,x,M,_,hn,ha,hN=>by have:=gP hn ha;omega
  |n+1,x,M,hx,hn,ha,hN=>by
    unfold fH
    by_cases hm:x∈M
    · rw [if_pos hm]
      exact .refl hn ha fun c h=>h▸hm
    · rw [if_neg hm]
      have hn2:(M++[x]).Nodup:=by
        rw [List.nodup_append]
        exact ⟨hn,by simp,fun y hy z hz e=>hm (by rw [List.mem_singleton.1 hz] at e;exact e▸hy)⟩
      have ha2:∀y∈M++[x],y∈bR b:=fun y hy=>by
        rcases List.mem_append.1 hy with q|q
        · exact ha y q
        · rw [List.mem_singleton.1 q];exact hx
      have h:=(wJ (s:=s) (N:=(bR b).length+1-n) (fun y L q1 q2 q3 q4=>tX hb n y L q1 q2 q3 (by omega)) x.2 (dW s x.1) (M++[x]) (fun y hy=>by rw [hb];exact (iU.1 hy).1) hn2 ha2 (by simp;omega)).imp (arN hb x)
      refine ⟨fun y hy=>h.sub y (by simp [hy]),h.nd,h.all,fun y hy=> ?_,fun y hy=> ?_,fun c hc=>h.sub c (by simp [hc])⟩
      · rcases h.new y hy with q|⟨c,q,r⟩
        · rcases List.mem_append.1 q with q|q
          · exact .inl q
          · exact .inr ⟨x,rfl,by rw [List.mem_singleton.1 q];exact .refl⟩
        · exact .inr ⟨x,rfl, .head q r⟩
      · rcases h.clo y hy with q|q
        · rcases List.mem_append.1 q with q|q
          · exact .inl q
          · rw [List.mem_singleton.1 q];exact .inr fun c hc=>h.me c hc
        · exact .inr q
def ahM (s:Sc) (b:Bs) (z:R2):List R2:=fH s b ((bR b).length+1) z []
theorem oW (hb:b.length=s.length) {z:R2} (hz:z∈bR b):Tk s b (· =z) [] (ahM s b z):=tX hb _ z [] hz List.nodup_nil (by simp) (by simp)
theorem afD (hb:b.length=s.length) {z:R2} (hz:z∈bR b) (y:R2):y∈ahM s b z↔Reach s b z y:=by
  have h:=oW hb hz
  constructor
  · intro hy
    rcases h.new y hy with q|⟨c,rfl,r⟩
    · cases q
    · exact r
  · intro hr
    induction hr with
    |refl=>exact h.me z rfl
    |step _ c ih=>exact ((h.clo _ ih).resolve_left (by simp)) _ c
def hJ (x y:R2):Prop:=x.1<y.1∨x.1=y.1∧x.2<y.2
theorem aoL {a b c:R2} (h:hJ a b) (k:hJ b c):hJ a c:=by unfold hJ at*;omega
theorem yU {a:R2}:¬hJ a a:=by unfold hJ;omega
theorem uV (hs:∀k<b.length,KSort b[k]!.lines):(bR b).Pairwise hJ:=by
  unfold bR
  rw [List.pairwise_flatMap]
  constructor
  · intro k hk
    unfold qE
    rw [List.pairwise_map]
    exact (List.pairwise_map.1 (hs k (List.mem_range.1 hk))).imp fun h=> .inr ⟨rfl,h⟩
  · refine List.pairwise_lt_range.imp fun {i j} hij x hx y hy=> ?_
    unfold qE at hx hy
    obtain ⟨_,_,rfl⟩:=List.mem_map.1 hx
    obtain ⟨_,_,rfl⟩:=List.mem_map.1 hy
    exact .inl (by show (i:Int)<j;omega)
theorem uP {L:List R2} (h:L.Pairwise hJ):L.Nodup:=h.imp fun {a b} q e=>by subst e;exact yU q
def adC (s:Sc) (b:Bs) (z:R2):List R2:=(bR b).filter fun y=>decide (y∈ahM s b z)
theorem anN (hs:∀k<b.length,KSort b[k]!.lines) (z:R2):(adC s b z).Pairwise hJ:=(uV hs).filter _
theorem tI (hb:b.length=s.length) {z:R2} (hz:z∈bR b) (y:R2):y∈adC s b z↔y∈ahM s b z:=by
  unfold adC
  rw [List.mem_filter,decide_eq_true_eq]
  exact ⟨fun h=>h.2,fun h=>⟨(oW hb hz).all y h,h⟩⟩
theorem aeC (hb:b.length=s.length) (hs:∀k<b.length,KSort b[k]!.lines) {z:R2} (hz:z∈bR b) {L:List R2} (hL:L.Pairwise hJ) (h:∀y,y∈L↔y∈ahM s b z):L=adC s b z:=
  xV (r:=hJ) aoL yU hL (anN hs z) fun y=>by rw [h,tI hb hz]
def toB (t:Tb) (l:Ln) (G:R2→Bool) (act:Int):Bool:=t.foreign.any fun f=>bI G l f&&decide (f.act=act)
def inR (rows:List R2) (r:R2):Bool:=decide (r∈rows)
def akO (s:Sc) (b:Bs) (rows:List R2) (k:Nat):List R2:=(b[k]!.lines.filter fun l=>inR rows ((k:Int),l.key)||toB s[k]! l (inR rows) 1).map fun l=>((k:Int),l.key)
def oE (s:Sc) (b:Bs) (rows:List R2):List R2:=(List.range b.length).flatMap (akO s b rows)
theorem yB {t:Tb} {l:Ln} {G:R2→Bool} {act:Int}:toB t l G act=true↔∃f∈t.foreign,bI G l f=true∧f.act=act:=by
  simp [toB,List.any_eq_true]
theorem pS {rows:List R2} {y:R2}:y∈oE s b rows↔(y∈rows∧y∈bR b)∨∃x∈rows,chB s b x y:=by
  simp only [oE,akO,List.mem_flatMap,List.mem_range,List.mem_map,List.mem_filter,Bool.or_eq_true,inR,decide_eq_true_eq]
  constructor
  · rintro ⟨k,hk,l,⟨hl,h|h⟩,rfl⟩
    · exact .inl ⟨h,eM.2 ⟨k,hk,l,hl,rfl⟩⟩
    · obtain ⟨f,hf,h1,h2⟩:=yB.1 h
      obtain ⟨key,h3,h4⟩:=gT.1 h1
      exact .inr ⟨(f.table,key),by simpa [inR] using h4,k,hk,f,hf,l,hl,rfl,h2,h3,rfl⟩
  · rintro (⟨h,hr⟩|⟨x,hx,k,hk,f,hf,l,hl,h1,h2,h3,rfl⟩)
    · obtain ⟨k,hk,l,hl,rfl⟩:=eM.1 hr
      exact ⟨k,hk,l,⟨hl, .inl h⟩,rfl⟩
    · exact ⟨k,hk,l,⟨hl, .inr (yB.2 ⟨f,hf,gT.2 ⟨x.2,h3,by simp [inR,h1,hx]⟩,h2⟩)⟩,rfl⟩
theorem pB (hs:∀k<b.length,KSort b[k]!.lines) (rows:List R2):(oE s b rows).Pairwise hJ:=by
  refine (uV hs).sublist ?_
  unfold oE bR
  have:∀L:List Nat,(L.flatMap (akO s b rows)).Sublist (L.flatMap (qE b)):=fun L=>by
    induction L with
    |nil=>exact .slnil
    |cons k L ih=>
      rw [List.flatMap_cons,List.flatMap_cons]
      exact (List.filter_sublist.map _).append ih
  exact this _
structure Mo (s:Sc) (b:Bs) (z:R2) (rows:List R2):Prop where
  nd:rows.Nodup
  me:z∈rows
  re:∀y∈rows,Reach s b z y
theorem Mo.row {z:R2} {rows:List R2} (h:Mo s b z rows) (hz:z∈bR b):∀y∈rows,y∈bR b:=fun y hy=>(h.re y hy).row hz
theorem Mo.sub {z:R2} {rows:List R2} (h:Mo s b z rows) (hz:z∈bR b):∀y∈rows,y∈oE s b rows:=fun y hy=>pS.2 (.inl ⟨hy,h.row hz y hy⟩)
theorem Mo.more (hs:∀k<b.length,KSort b[k]!.lines) {z:R2} {rows:List R2} (h:Mo s b z rows) (hz:z∈bR b):Mo s b z (oE s b rows):=
  ⟨uP (pB hs rows),h.sub hz z h.me,fun y hy=>by
    rcases pS.1 hy with ⟨q,_⟩|⟨x,hx,c⟩
    · exact h.re y q
    · exact .step (h.re x hx) c⟩
theorem Mo.le {z:R2} {rows:List R2} (h:Mo s b z rows) (hz:z∈bR b):rows.length≤(oE s b rows).length:=gP h.nd (h.sub hz)
theorem Mo.bound {z:R2} {rows:List R2} (h:Mo s b z rows) (hz:z∈bR b):rows.length≤(bR b).length:=gP h.nd (h.row hz)
theorem qW :∀{M A:List R2},M.Nodup→A.Nodup→(∀y∈M,y∈A)→A.length≤M.length→∀y∈A,y∈M
  |[],A,_,_,_,hl,y,hy=>by cases A with|nil=>cases hy|cons=>simp at hl
  |x::M,A,hn,ha,hs,hl,y,hy=>by
    obtain ⟨h1,h2⟩:=List.nodup_cons.1 hn
    have hx:=hs x (by simp)
    by_cases e:y=x
    · subst e;simp
    · refine List.mem_cons_of_mem _ (qW (A:=A.erase x) h2 (ha.erase x) (fun z hz=>(List.mem_erase_of_ne (fun e=>h1 (by rw [←e];exact hz))).2 (hs z (by simp [hz]))) ?_ y ((List.mem_erase_of_ne e).2 hy))
      rw [List.length_erase_of_mem hx]
      simp only [List.length_cons] at hl;omega
theorem Mo.done (hb:b.length=s.length) (hs:∀k<b.length,KSort b[k]!.lines) {z:R2} {rows:List R2} (h:Mo s b z rows) (hz:z∈bR b) (he:(oE s b rows).length=rows.length):oE s b rows=adC s b z:=by
  have hback:=qW h.nd (uP (pB hs rows)) (h.sub hz) (Nat.le_of_eq he)
  refine aeC hb hs hz (pB hs rows) fun y=> ?_
  rw [afD hb hz]
  constructor
  · exact fun hy=>(h.more hs hz).re y hy
  · intro hr
    induction hr with
    |refl=>exact h.sub hz z h.me
    |step _ c ih=>exact pS.2 (.inr ⟨_,hback _ ih,c⟩)
end Go.Proofs.YtddmbnddgiebgaaGreatDoor
namespace Go.Proofs.YtddmbnddgiebgaaGreatDoor
open Go Go.Abs
attribute [local irreducible] Ev PWp
set_option maxRecDepth 10000
set_option maxHeartbeats 4000000
theorem r2C.elem :Elem tt 28 r2C (fun a=> .agg (r2C a)) 2:=⟨rfl,fun _=>rfl,fun _=>rfl,fun _=>rfl,fun _=>rfl⟩
theorem rK :Tryz.prog.bytesOf 28=16:=by kernel_rfl
theorem adY :Tryz.prog.cellsOf 28=2:=by kernel_rfl
theorem pJ {l:Ln} {j:Nat} (h:j<l.cells_.length):ptP l j=if l.cells_[j].val.kind=1 then some l.cells_[j].val.n else none:=by
  unfold ptP
  rw [if_pos ⟨by omega,by omega⟩,Int.toNat_natCast,getElem!_pos l.cells_ j h]
theorem nE {l:Ln} {c:Int} (h:¬(0≤c∧c<l.cells_.length)):ptP l c=none:=by unfold ptP;rw [if_neg h]
def iJ (l:Ln) (c:Int):Prop:=∀j (h:j<l.cells_.length),(j:Int)=c→l.cells_[j].kind=0
def ptR (o:Option Int):PV:= .tup [(PV.val (Value.int .i64 (o.getD 0))),(PV.val (Value.bool (o.isSome)))]
theorem fY (l:Ln) (c:Int) (h:iJ l c):PF Tryz.prog 26 [.agg l.cells,(PV.val (Value.int .i64 (c)))] (ptR (ptP l c)):=by
  by_cases hc:0≤c∧c<l.cells_.length
  · obtain ⟨j,rfl⟩:∃j:Nat,c=j:=⟨c.toNat,by omega⟩
    have hj:j<l.cells_.length:=by omega
    have hs:=abK l.cells_[j] (h j hj rfl)
    rw [pJ hj]
    by_cases hk:l.cells_[j].val.kind=1
    rw [if_pos hk]
    refine aL aH Tryz.func26 (by kernel_rfl) rfl rfl rfl rfl (fun st=> ?_)
    rotate_left
    rw [if_neg hk]
    refine aL aH Tryz.func26 (by kernel_rfl) rfl rfl rfl rfl (fun st=> ?_)
    rotate_left
    all_goals ((try (apply wO pk;exact rfl));(repeat' (first|(show All _;constructor)|(show Imp _ _;constructor)|(show ImpX _ _ _ _;constructor)|(apply wC pk;(iterate 2 exact rfl))|(apply wE pk;(iterate 2 exact rfl))|(apply wX pk;exact rfl)|(apply wN pk;exact rfl)|(apply wD pk [] [];kernel_rfl;exact rfl;exact rfl)|(apply aC;simp only [zqt,zqf])|(refine aD rfl (fun h=> ?_) (fun h=> ?_)<;>(try simp at h)<;>try (exfalso;omega))|(refine aF ?_;refine ⟨_,_,_,rfl,Wk.refl _,StSub.refl _, ?_,rfl⟩;try rfl)|(apply aK;(iterate 3 exact rfl);(intro _;apply hs<;>first|assumption|omega);rotate_left;(iterate 2 exact rfl))|(apply bC pk;(iterate 6 exact rfl);rotate_left;exact rfl;(intro hw;exact rfl);(intro hw;apply aJ<;>omega);(intro _;exact rfl);exact rfl)|(intros;(try simp only [zql]);omega)|((exfalso;omega)))))
  · rw [nE hc]
    refine aL aH Tryz.func26 (by kernel_rfl) rfl rfl rfl rfl (fun st=> ?_)
    (try (apply wO pk;exact rfl));(repeat' (first|(show All _;constructor)|(show Imp _ _;constructor)|(show ImpX _ _ _ _;constructor)|(apply wC pk;(iterate 2 exact rfl))|(apply wE pk;(iterate 2 exact rfl))|(apply wX pk;exact rfl)|(apply wN pk;exact rfl)|(apply wD pk [] [];kernel_rfl;exact rfl;exact rfl)|(apply aC;simp only [zqt,zqf])|(refine aD rfl (fun h=> ?_) (fun h=> ?_)<;>(try simp at h)<;>try (exfalso;omega))|(refine aF ?_;refine ⟨_,_,_,rfl,Wk.refl _,StSub.refl _, ?_,rfl⟩;try rfl)|(intros;(try simp only [zql]);omega)|((exfalso;simp at*;omega))))
theorem aaB (c:Cl) (h:c.kind=0):PF Tryz.prog 73 [.agg c.cells] (.agg c.val.cells):=by
  refine aL aH Tryz.func73 (by kernel_rfl) rfl rfl rfl rfl (fun st=> ?_)
  (try (apply wO pk;exact rfl));(repeat' (first|(show All _;constructor)|(show Imp _ _;constructor)|(show ImpX _ _ _ _;constructor)|(apply wC pk;(iterate 2 exact rfl))|(apply wE pk;(iterate 2 exact rfl))|(apply wX pk;exact rfl)|(apply wN pk;exact rfl)|(apply wD pk [] [];kernel_rfl;exact rfl;exact rfl)|(apply aC;simp only [zqt,zqf])|(refine aD rfl (fun h=> ?_) (fun h=> ?_)<;>(try simp at h)<;>try (exfalso;omega))|(refine aF ?_;refine ⟨_,_,_,rfl,Wk.refl _,StSub.refl _, ?_,rfl⟩;try rfl)|(intros;(try simp only [zql]);omega)))
theorem xS (l:Ln) (c:Int) (h:iJ l c):PF Tryz.prog 42 [.agg l.cells,(PV.val (Value.int .i64 (c)))] (ptR (ptP l c)):=by
  by_cases hc:0≤c∧c<l.cells_.length
  · obtain ⟨j,rfl⟩:∃j:Nat,c=j:=⟨c.toNat,by omega⟩
    have hj:j<l.cells_.length:=by omega
    have hs:=aaB l.cells_[j] (h j hj rfl)
    rw [pJ hj]
    by_cases hk:l.cells_[j].val.kind=1
    rw [if_pos hk]
    refine aL aH Tryz.func42 (by kernel_rfl) rfl rfl rfl rfl (fun st=> ?_)
    rotate_left
    rw [if_neg hk]
    refine aL aH Tryz.func42 (by kernel_rfl) rfl rfl rfl rfl (fun st=> ?_)
    rotate_left
    all_goals ((try (apply wO pk;exact rfl));(repeat' (first|(show All _;constructor)|(show Imp _ _;constructor)|(show ImpX _ _ _ _;constructor)|(apply wC pk;(iterate 2 exact rfl))|(apply wE pk;(iterate 2 exact rfl))|(apply wX pk;exact rfl)|(apply wN pk;exact rfl)|(apply wD pk [] [];kernel_rfl;exact rfl;exact rfl)|(apply aC;simp only [zqt,zqf])|(refine aD rfl (fun h=> ?_) (fun h=> ?_)<;>(try simp at h)<;>try (exfalso;omega))|(refine aF ?_;refine ⟨_,_,_,rfl,Wk.refl _,StSub.refl _, ?_,rfl⟩;try rfl)|(apply aK;(iterate 3 exact rfl);(intro _;apply hs<;>first|assumption|omega);rotate_left;(iterate 2 exact rfl))|(apply bC pk;(iterate 6 exact rfl);rotate_left;exact rfl;(intro hw;exact rfl);(intro hw;apply aJ<;>omega);(intro _;exact rfl);exact rfl)|(intros;(try simp only [zql]);omega)|((exfalso;omega)))))
  · rw [nE hc]
    refine aL aH Tryz.func42 (by kernel_rfl) rfl rfl rfl rfl (fun st=> ?_)
    (try (apply wO pk;exact rfl));(repeat' (first|(show All _;constructor)|(show Imp _ _;constructor)|(show ImpX _ _ _ _;constructor)|(apply wC pk;(iterate 2 exact rfl))|(apply wE pk;(iterate 2 exact rfl))|(apply wX pk;exact rfl)|(apply wN pk;exact rfl)|(apply wD pk [] [];kernel_rfl;exact rfl;exact rfl)|(apply aC;simp only [zqt,zqf])|(refine aD rfl (fun h=> ?_) (fun h=> ?_)<;>(try simp at h)<;>try (exfalso;omega))|(refine aF ?_;refine ⟨_,_,_,rfl,Wk.refl _,StSub.refl _, ?_,rfl⟩;try rfl)|(intros;(try simp only [zql]);omega)|((exfalso;simp at*;omega))))
theorem jT (rows:List R2) (r:R2) (hl:rows.length<1000000000000):PF Tryz.prog 17 [.seq (rows.map r2C), .agg (r2C r)] (PV.val (Value.bool (inR rows r))):=by
  refine aL aH Tryz.func17 (by kernel_rfl) rfl rfl rfl rfl (fun st=> ?_)
  focus ((try (apply wO pk;exact rfl));(repeat' (first|(show All _;constructor)|(show Imp _ _;constructor)|(show ImpX _ _ _ _;constructor)|(apply wC pk;(iterate 2 exact rfl))|(apply wE pk;(iterate 2 exact rfl))|(apply wX pk;exact rfl)|(apply wN pk;exact rfl)|(apply wD pk [] [];kernel_rfl;exact rfl;exact rfl)|(apply aC;simp only [zqt,zqf])|(refine aD rfl (fun h=> ?_) (fun h=> ?_)<;>(try simp at h)<;>try (exfalso;omega))|(refine aF ?_;refine ⟨_,_,_,rfl,Wk.refl _,StSub.refl _, ?_,rfl⟩;try rfl)|(intros;(try simp only [zql]);omega))))
  refine aP (X:={x:Nat//x≤rows.length∧∀j (h:j<rows.length),j<x→rows[j]≠r}) (fun i=>((((St.nil 18 st).pv 0 (.seq (rows.map r2C))).var 3 28 ((r2C r))).pv 5 ((PV.val (Value.int .i64 ((i.1:Nat))))))) (fun i=>rows.length-i.1) ⟨0,by omega,by omega⟩ ?_ (fun i=> ?_)
  · ((repeat (first|refine Sub.pv ?_ rfl|refine Sub.var ?_ rfl rfl));exact Sub.nil _ _ _ (StSub.refl _) rfl)
  obtain ⟨i,hi,hI⟩:=i
  dsimp only
  by_cases hend:rows.length≤i
  have e:inR rows r=false:=by
    unfold inR
    rw [decide_eq_false]
    intro hm
    obtain ⟨j,hj,e⟩:=List.getElem_of_mem hm
    exact hI j hj (by omega) e
  rotate_left
  have hil:i<rows.length:=by omega
  by_cases hk:rows[i]=r
  have e:inR rows r=true:=by unfold inR;rw [decide_eq_true];exact hk▸List.getElem_mem hil
  have hk1:=congrArg Prod.fst hk
  have hk2:=congrArg Prod.snd hk
  rotate_left
  have hk3:¬(rows[i].1=r.1∧rows[i].2=r.2):=fun h=>hk (Prod.ext h.1 h.2)
  have hIA:∀j (h:j<rows.length),j<i+1→rows[j]≠r:=fun j h hj=>by
    rcases Nat.lt_succ_iff_lt_or_eq.1 hj with q|q
    · exact hI j h q
    · subst q;exact hk
  rotate_left
  all_goals ((try (apply wO pk;exact rfl));(repeat' (first|(show All _;constructor)|(show Imp _ _;constructor)|(show ImpX _ _ _ _;constructor)|(apply wC pk;(iterate 2 exact rfl))|(apply wE pk;(iterate 2 exact rfl))|(apply wX pk;exact rfl)|(apply wN pk;exact rfl)|(apply wD pk [] [];kernel_rfl;exact rfl;exact rfl)|(apply aC;simp only [zqt,zqf])|(refine aD rfl (fun h=> ?_) (fun h=> ?_)<;>(try simp at h)<;>try (exfalso;omega))|(refine aF ?_;refine ⟨_,_,_,rfl,Wk.refl _,StSub.refl _, ?_,rfl⟩;try first|rfl|((rw [e]);done))|(apply bC pk;(iterate 6 exact rfl);rotate_left;exact rfl;(intro hw;exact rfl);(intro hw;apply aJ<;>omega);(intro _;exact rfl);exact rfl)|(refine ⟨⟨i+1,by omega,hIA⟩, ?_,by simp only;omega⟩;((repeat (first|refine Sub.pv ?_ rfl|refine Sub.var ?_ rfl rfl));exact Sub.nil _ _ _ (StSub.refl _) rfl))|(intros;(try simp only [zql]);omega)|((exfalso;simp_all;done)))))
end Go.Proofs.YtddmbnddgiebgaaGreatDoor
