import Derived.Test.YtloecjjehapblaaGreatDoorOpAg
import Derived.Test.YtloecjjehapblaaGreatDoorAbsI
import Derived.Test.YtloecjjehapblaaGreatDoorAbsG
import Derived.Test.YtloecjjehapblaaGreatDoorAbsF
import Derived.Test.YtloecjjehapblaaGreatDoorRows
import Derived.SizedLaws
import Derived.LaidMore
import Derived.LaidOnce
import Derived.LaidHandle
import Derived.Test.YtloecjjehapblaaGreatDoorOpAb
set_option linter.unusedSimpArgs false
set_option linter.unusedVariables false
namespace Go.Proofs.YtloecjjehapblaaGreatDoor
open Go Go.Abs
attribute [local irreducible] Ev PWp
set_option maxRecDepth 10000
set_option maxHeartbeats 4000000
theorem alY (c:Cl) (h:c.kind=0):PF Tryz.prog 30 [.agg c.cells] (.agg c.val.cells):=by
 refine aG aF Tryz.func30 (by kernel_rfl) rfl rfl rfl rfl (λst=> ?_)
 (try apply wO pk;rfl);(repeat' first|show All _;constructor|apply wC pk;rfl;rfl|refine aA rfl ?_ ?_<;>intro h<;>(try simp at h)<;>try omega|(refine aC ?_;refine ⟨_,_,_,rfl,zwr _,zsr _, ?_,rfl⟩;try rfl))
def aFS :Co:=⟨⟨#[105,100]⟩,0,1,false⟩
def aGY :Co:=⟨⟨#[115]⟩,3,1,false⟩
def jH (b:Bs) (k:Int) (ls:List Ln):Bs:=if okT b k then b.set k.toNat ⟨ls⟩ else b
theorem kM (b:Bs) (k:Int) (ls:List Ln):(jH b k ls).length=b.length:=by unfold jH;split<;>simp
theorem asB {b:Bs} {k:Int} {ls:List Ln} {i:Nat} (h:i<b.length) (hk:(i:Int)=k):(jH b k ls)[i]'(by rw [kM];exact h)=⟨ls⟩:=by
 subst hk
 simp [jH,okT,h]
theorem aDf {b:Bs} {k:Int} {ls:List Ln} {i:Nat} (h:i<b.length) (hk:¬(i:Int)=k):(jH b k ls)[i]'(by rw [kM];exact h)=b[i]:=by
 unfold jH
 split
 ·rename_i q
  simp only [okT,zba,zde] at q
  rw [List.getElem_set_ne (by omega)]
 ·rfl
end Go.Proofs.YtloecjjehapblaaGreatDoor
namespace Go.Proofs.YtloecjjehapblaaGreatDoor
open Go Go.Abs
set_option maxRecDepth 10000
set_option maxHeartbeats 4000000
theorem sM (L:List Ln) (k:Int):(∃j:Nat,∃h:j<L.length,atP L k=((j:Int),true)/\eH L k=some L[j]/\L[j].key=k/\∀q (hq:q<j),L[q].key≠k)\/
  (∃j:Nat,j<=L.length/\atP L k=((j:Int),false)/\eH L k=none/\(∀x∈L,x.key≠k)/\(∀q (hq:q<j) (h:q<L.length),¬L[q].key>k)/\∀h:j<L.length,L[j].key>k):=by
 unfold atP eH
 cases h:L.findIdx? λx:Ln=>decide (x.key=k) with
 |some j=>
  left
  obtain ⟨hj,hf,hn⟩:=List.findIdx?_eq_some_iff_getElem.1 h
  refine ⟨j,hj, ?_,arU hj hf λq hq h2=>by simpa using hn q hq,by simpa using hf,λq hq=>by simpa using hn q hq⟩
  have e:cR (λx:Ln=>decide (x.key=k)) L=j:=by unfold cR;rw [h]
  rw [e,if_pos (by omega)]
 |none=>
  right
  have e:cR (λx:Ln=>decide (x.key=k)) L= -1:=by unfold cR;rw [h]
  have hne:∀x∈L,x.key≠k:=λx hx=>by simpa using List.findIdx?_eq_none_iff.1 h x hx
  have hg:L.find? (λx:Ln=>decide (x.key=k))=none:=List.find?_eq_none.2 λx hx=>by rw [List.findIdx?_eq_none_iff.1 h x hx];simp
  rw [e,if_neg (by omega)]
  cases h2:L.findIdx? λx:Ln=>decide (x.key>k) with
  |some j=>
   obtain ⟨hj,hf,hn⟩:=List.findIdx?_eq_some_iff_getElem.1 h2
   have e2:cR (λx:Ln=>decide (x.key>k)) L=j:=by unfold cR;rw [h2]
   rw [e2,if_pos (by omega)]
   exact ⟨j,by omega,rfl,hg,hne,λq hq hl=>by simpa using hn q hq,λ_=>by simpa using hf⟩
  |none=>
   have e2:cR (λx:Ln=>decide (x.key>k)) L= -1:=by unfold cR;rw [h2]
   rw [e2,if_neg (by omega)]
   exact ⟨L.length,Nat.le_refl _,rfl,hg,hne,λq hq hl=>by simpa using List.findIdx?_eq_none_iff.1 h2 L[q] (zgm hl),λh=>absurd h (Nat.lt_irrefl _)⟩
theorem avR (b:Bs) (k key:Int):azN b k key=jH b k (if (atP (aO b k) key).2 then (aO b k).eraseIdx (atP (aO b k) key).1.toNat else aO b k):=by
 unfold azN jH
 split
 ·rename_i h
  split
  ·rfl
  ·have h2:=h
   simp only [okT,zba,zde] at h2
   unfold aO
   rw [if_pos h]
   obtain ⟨q,rfl⟩:∃q:Nat,k=q:=⟨k.toNat,by omega⟩
   have hq:q<b.length:=by omega
   rw [Int.toNat_natCast,getElem!_pos b q hq]
   exact (List.set_getElem_self hq).symm
 ·rfl
theorem aoT {L:List Ln} {j:Nat} {a:Ln} (h:j<=L.length):(eF L j [a]).length=L.length+1:=by rw [wS h];rfl
end Go.Proofs.YtloecjjehapblaaGreatDoor
namespace Go.Proofs.YtloecjjehapblaaGreatDoor
open Go Go.Abs
attribute [local irreducible] Ev PWp
set_option maxRecDepth 10000
set_option maxHeartbeats 4000000
theorem aBy {L:List Dt} {d:Dt} {q:Nat} (h:q<fO L d) (hq:q<L.length):bG L[q] d=false:=by
 unfold fO at h
 cases e:L.findIdx? λx=>bG x d with
 |none=>exact List.findIdx?_eq_none_iff.1 e _ (zgm hq)
 |some j=>rw [e] at h;simpa using (List.findIdx?_eq_some_iff_getElem.1 e).2.2 q h
theorem aAf {L:List Dt} {d:Dt} {j:Nat} (hd:fO L d=j) (hq:j<L.length):bG L[j] d=true:=by
 unfold fO at hd
 cases e:L.findIdx? λx=>bG x d with
 |none=>rw [e] at hd;simp at hd;omega
 |some q=>rw [e] at hd;simp at hd;subst hd;exact (List.findIdx?_eq_some_iff_getElem.1 e).2.1
end Go.Proofs.YtloecjjehapblaaGreatDoor
namespace Go.Proofs.YtloecjjehapblaaGreatDoor
open Go Go.Abs
attribute [local irreducible] Ev PWp
set_option maxRecDepth 10000
set_option maxHeartbeats 4000000
section
variable {P:Program} {tt:TT} {l:List Oper} {d:Md} {r:List Oper} {s:St} {K:St->Prop} {t:Nat} {ty:TypeId} {pos:String} {after:Array Edge}
theorem aGo {T T2:TypeId} {x y:Operand} {a b:Int} (hx:opd s x=some (.val (.int .i64 a))) (hy:opd s y=some (.val (.int .i64 b))) (hf:bR s [x,y]=true) (hd:Nat.blt t s.n=true) (ht:cY d l r=true) (k:∀c,Ev P l d r (s.put (some t) true (.pv (.val (.int .i64 c)))) K):Ev P l d (⟨some t, .binOp .add T x y T2,ty,pos,after,none⟩::r) s K:=
 jQ (c:=IntKind.i64.wrap (a+b)) rfl hx hy (λ_=> .inl ⟨rfl,rfl⟩) (by simp only [bR,zba] at hf;exact ⟨λ_=>hf.1,λ_=>hf.2.1,trivial⟩) hd ht (k _)
end
def tot (b:Bs):Nat:=(b.map λd=>d.lines.length).sum
theorem azJ {b:Bs} {i:Nat} (h:i<b.length):tot (b.take (i+1))=tot (b.take i)+b[i].lines.length:=by
 unfold tot
 rw [List.take_succ_eq_append_getElem h,List.map_append,List.sum_append];simp
theorem aEW (b:Bs) (i:Nat):tot (b.take i)<=tot b:=by
 have:tot b=tot (b.take i)+tot (b.drop i):=by
  unfold tot;rw [<-List.sum_append,<-List.map_append,List.take_append_drop]
 omega
def uB (b:Bs):Bool:=decide (b.length<=20)&&(decide (tot b<=100)&&b.all λd=>d.lines.all fJ)
theorem aFt {b:Bs} {i y:Nat} (hi:i<b.length) (hy:y<b[i].lines.length) (h:fJ b[i].lines[y]=false):uB b=false:=by
 unfold uB
 have:(b.all λd=>d.lines.all fJ)=false:=by
  rw [<-Bool.not_eq_true,zal]
  intro q
  have:=zal.1 (q _ (zgm hi)) _ (zgm hy)
  rw [h] at this;cases this
 rw [this];simp
theorem ayN (b:Bs) (hb:b.length<200000000000000) (hd:∀d∈b,d.lines.length<200000000000000/\∀l∈d.lines,l.cells_.length<4611686018427387904):PF Tryz.prog 79 [.agg (bsC b)] (PV.val (Value.bool (uB b))):=by
 by_cases h20:¬b.length<=20
 ·have hF:uB b=false:=by unfold uB;rw [decide_eq_false h20];rfl
  rw [hF]
  refine aG aF Tryz.func79 (by kernel_rfl) rfl rfl rfl rfl (λst=> ?_)
  focus ((try apply wO pk;rfl);(repeat' (show All _;constructor)))
  refine aK (X:={x:Nat×Int//x.1<=b.length}) (λi=>((((St.nil 56 st).var 1 27 ((bsC b))).pv 3 ((PV.val (Value.int .i64 (i.1.2))))).pv 4 ((PV.val (Value.int .i64 ((i.1.1:Nat))))))) (λi=>b.length-i.1.1) ⟨(0,0),by simp⟩ ?_ (λi=> ?_)
  ·((repeat (first|refine Sub.pv ?_ rfl|refine Sub.var ?_ rfl rfl));exact Sub.nil _ _ _ (zsr _) rfl)
  obtain ⟨⟨i,n⟩,hi⟩:=i
  simp only at hi
  dsimp only
  by_cases hend:b.length<=i
  rotate_left
  have hil:i<b.length:=by omega
  have hdl:=(hd _ (zgm hil)).1
  focus ((try apply wO pk;rfl);(repeat' first|((iterate 3 (apply lT aF;(iterate 4 rfl)));apply aGo;(iterate 5 rfl);intro n')|show All _;constructor|show Imp _ _;constructor|apply wC pk;rfl;rfl|apply wE pk;rfl;rfl|refine aA rfl ?_ ?_<;>intro h<;>(try simp at h)<;>try omega|apply aN pk;(iterate 6 rfl);rotate_left;rfl;(intro hw;rfl);(intro hw;apply aI<;>omega);(intro _;rfl);rfl|intros;(try simp only [zql]);omega))
  refine aK (X:={x:Nat//x<=b[i].lines.length}) (λy=>(((((St.nil 56 st).var 1 27 ((bsC b))).pv 3 ((PV.val (Value.int .i64 (n'))))).pv 4 ((PV.val (Value.int .i64 ((i:Nat)))))).pv 5 ((PV.val (Value.int .i64 ((y.1:Nat))))))) (λy=>b[i].lines.length-y.1) ⟨0,by omega⟩ ?_ (λy=> ?_)
  ·((repeat (first|refine Sub.pv ?_ rfl|refine Sub.var ?_ rfl rfl));exact Sub.nil _ _ _ (zsr _) rfl)
  obtain ⟨y,hy⟩:=y
  dsimp only
  by_cases hend2:b[i].lines.length<=y
  rotate_left
  have hyl:y<b[i].lines.length:=by omega
  have hs:=abL b[i].lines[y] ((hd _ (zgm hil)).2 _ (zgm hyl))
  rotate_left
  all_goals ((try apply wO pk;rfl);(repeat' first|show All _;constructor|show Imp _ _;constructor|show ImpX _ _ _ _;constructor|apply wC pk;rfl;rfl|apply wE pk;rfl;rfl|refine aA rfl ?_ ?_<;>intro h<;>(try simp at h)<;>try omega|(refine aC ?_;refine ⟨_,_,_,rfl,zwr _,zsr _, ?_,rfl⟩;try first|rfl|(rw [zql,decide_eq_false (by omega)];rfl);done)|(apply aH;rfl;rfl;rfl;(intro _;apply hs<;>first|assumption|omega);rotate_left;rfl;rfl)|apply aN pk;(iterate 6 rfl);rotate_left;rfl;(intro hw;rfl);(intro hw;apply aI<;>omega);(intro _;rfl);rfl|((first|refine ⟨⟨(i+1,n'),by simp only;omega⟩, ?_,by simp only;omega⟩|refine ⟨⟨y+1,by omega⟩, ?_,by simp only;omega⟩);((repeat (first|refine Sub.pv ?_ rfl|refine Sub.var ?_ rfl rfl));exact Sub.nil _ _ _ (zsr _) rfl))|intros;(try simp only [zql]);omega))
 replace h20:=Decidable.of_not_not h20
 refine aG aF Tryz.func79 (by kernel_rfl) rfl rfl rfl rfl (λst=> ?_)
 focus ((try apply wO pk;rfl);(repeat' (show All _;constructor)))
 refine aK (X:={x:Nat×Nat//x.1<=b.length/\x.2=tot (b.take x.1)/\x.2<=x.1*200000000000000/\(x.2<=100->∀j (h:j<b.length),j<x.1->∀l∈b[j].lines,fJ l=true)}) (λi=>((((St.nil 56 st).var 1 27 ((bsC b))).pv 3 ((PV.val (Value.int .i64 ((i.1.2:Nat)))))).pv 4 ((PV.val (Value.int .i64 ((i.1.1:Nat))))))) (λi=>b.length-i.1.1) ⟨(0,0),by simp,rfl,by simp,by simp⟩ ?_ (λi=> ?_)
 ·((repeat (first|refine Sub.pv ?_ rfl|refine Sub.var ?_ rfl rfl));exact Sub.nil _ _ _ (zsr _) rfl)
 obtain ⟨⟨i,n⟩,hi,hn,hb2,hS⟩:=i
 simp only at hi hn hb2 hS
 dsimp only
 by_cases hend:b.length<=i
 have e:decide ((n:Int)<=100)=(decide (tot b<=100)&&b.all λd=>d.lines.all fJ):=by
  rw [List.take_of_length_le hend] at hn
  subst hn
  by_cases q:tot b<=100
  ·rw [decide_eq_true (by omega),decide_eq_true q,Bool.true_and,eq_comm,zal]
   intro d hd'
   obtain ⟨j,hj,rfl⟩:=List.getElem_of_mem hd'
   rw [zal]
   exact hS q j hj (by omega)
  ·rw [decide_eq_false (by omega),decide_eq_false q];rfl
 have e2:decide ((b.length:Int)<=20)=decide (b.length<=20):=by rw [decide_eq_decide];omega
 rotate_left
 have hil:i<b.length:=by omega
 obtain ⟨d1,d2⟩:=hd _ (zgm hil)
 have ht:=azJ hil
 have hF:=λy h=>aFt (y:=y) hil h
 focus ((try apply wO pk;rfl);(repeat' first|show All _;constructor|show Imp _ _;constructor|apply wC pk;rfl;rfl|apply wE pk;rfl;rfl|refine aA rfl ?_ ?_<;>intro h<;>(try simp at h)<;>try omega|apply aN pk;(iterate 6 rfl);rotate_left;rfl;(intro hw;rfl);(intro hw;apply aI<;>omega);(intro _;rfl);rfl|intros;(try simp only [zql]);omega))
 refine aK (X:={x:Nat//x<=b[i].lines.length/\(n+b[i].lines.length<=100->∀j (h:j<b[i].lines.length),j<x->fJ b[i].lines[j]=true)}) (λy=>(((((St.nil 56 st).var 1 27 ((bsC b))).pv 3 ((PV.val (Value.int .i64 (((n+b[i].lines.length:Nat):Int)))))).pv 4 ((PV.val (Value.int .i64 ((i:Nat)))))).pv 5 ((PV.val (Value.int .i64 ((y.1:Nat))))))) (λy=>b[i].lines.length-y.1) ⟨0,by omega,by omega⟩ ?_ (λy=> ?_)
 ·((repeat (first|refine Sub.pv ?_ rfl|refine Sub.var ?_ rfl rfl|refine Sub.pv' ?_ rfl (by (congr 2;rw [zql];omega))));exact Sub.nil _ _ _ (zsr _) rfl)
 obtain ⟨y,hy,hyS⟩:=y
 dsimp only
 have hnx:¬(y<b[i].lines.length/\n+b[i].lines.length<=100)->(n+b[i].lines.length<=100->∀j (h:j<b.length),j<i+1->∀l∈b[j].lines,fJ l=true):=λh q j hj hji l hl=>by
  rcases Nat.lt_succ_iff_lt_or_eq.1 hji with r|r
  ·exact hS (by omega) j hj r l hl
  ·subst r
   obtain ⟨z,hz,rfl⟩:=List.getElem_of_mem hl
   exact hyS q z hz (by omega)
 have hn2:n+b[i].lines.length=tot (b.take (i+1)):=by omega
 by_cases hend2:b[i].lines.length<=y
 rotate_left
 have hyl:y<b[i].lines.length:=by omega
 have hs:=abL b[i].lines[y] (d2 _ (zgm hyl))
 have hF2:=hF y hyl
 have hSt:fJ b[i].lines[y]=true->(n+b[i].lines.length<=100->∀j (h:j<b[i].lines.length),j<y+1->fJ b[i].lines[j]=true):=λh q j hj hjy=>by
  rcases Nat.lt_succ_iff_lt_or_eq.1 hjy with r|r
  ·exact hyS q j hj r
  ·subst r;exact h
 generalize hG:fJ b[i].lines[y]=G at*
 cases G
 rotate_left
 rotate_left
 all_goals ((try apply wO pk;rfl);(repeat' first|show All _;constructor|show Imp _ _;constructor|show ImpX _ _ _ _;constructor|apply wC pk;rfl;rfl|apply wE pk;rfl;rfl|refine aA rfl ?_ ?_<;>intro h<;>(try simp at h)<;>try omega|(refine aC ?_;refine ⟨_,_,_,rfl,zwr _,zsr _, ?_,rfl⟩;try first|rfl|(first|(rw [zql];unfold uB;rw [<-e,<-e2]);done|(rw [hF2 rfl]);done);done)|(apply aH;rfl;rfl;rfl;(intro _;apply hs<;>first|assumption|omega);rotate_left;rfl;rfl)|apply aN pk;(iterate 6 rfl);rotate_left;rfl;(intro hw;rfl);(intro hw;apply aI<;>omega);(intro _;rfl);rfl|((first|refine ⟨⟨(i+1,n+b[i].lines.length),by simp only;omega,hn2,by simp only;omega,hnx (by omega)⟩, ?_,by simp only;omega⟩|refine ⟨⟨y+1,by omega,hSt rfl⟩, ?_,by simp only;omega⟩);((repeat (first|refine Sub.pv ?_ rfl|refine Sub.var ?_ rfl rfl));exact Sub.nil _ _ _ (zsr _) rfl))|intros;(try simp only [zql]);omega))
end Go.Proofs.YtloecjjehapblaaGreatDoor
namespace Go.Proofs.YtloecjjehapblaaGreatDoor
open Go Go.Abs
attribute [local irreducible] Ev PWp
set_option maxRecDepth 10000
set_option maxHeartbeats 4000000
def LnS (l:Ln):Prop:=l.by_.length<=1000/\l.cells_.length<=1000/\∀c∈l.cells_,c.parts.length<=1000
def BsS (n:Nat) (b:Bs):Prop:=b.length<=20/\∀d∈b,d.lines.length<=n/\∀l∈d.lines,LnS l
theorem aDD {l:Ln} (h:fJ l=true):LnS l:=by
 unfold fJ at h
 simp only [zba,zde,zal,lQ] at h
 exact ⟨by omega,by omega,λc hc=>by have:=(h.1 c hc).1;omega⟩
theorem aDZ {b:Bs} (h:uB b=true):BsS 100 b:=by
 unfold uB at h
 simp only [zba,zde,zal] at h
 obtain ⟨h1,h2,h3⟩:=h
 refine ⟨h1,λd hd=>⟨?_,λl hl=>aDD (h3 d hd l hl)⟩⟩
 obtain ⟨j,hj,rfl⟩:=List.getElem_of_mem hd
 have e1:=azJ hj
 have e2:=aEW b (j+1)
 omega
theorem BsS.up {n m:Nat} {b:Bs} (h:BsS n b) (hm:n<=m):BsS m b:=⟨h.1,λd hd=>⟨Nat.le_trans (h.2 d hd).1 hm,(h.2 d hd).2⟩⟩
theorem BsS.lines {n:Nat} {b:Bs} (h:BsS n b) (k:Int):(aO b k).length<=n/\∀l∈aO b k,LnS l:=by
 unfold aO
 split
 ·rename_i q
  simp only [okT,zba,zde] at q
  have hk:k.toNat<b.length:=by omega
  rw [getElem!_pos b k.toNat hk]
  exact h.2 _ (zgm hk)
 ·exact ⟨Nat.zero_le _,λl hl=>by cases hl⟩
theorem BsS.set {n:Nat} {b:Bs} (h:BsS n b) (k:Int) {ls:List Ln} (h1:ls.length<=n) (h2:∀l∈ls,LnS l):BsS n (jH b k ls):=by
 refine ⟨by rw [kM];exact h.1,λd hd=> ?_⟩
 unfold jH at hd
 split at hd
 ·rcases List.mem_or_eq_of_mem_set hd with q|q
  ·exact h.2 d q
  ·subst q;exact ⟨h1,h2⟩
 ·exact h.2 d hd
theorem ahE (L:List Ln) (a:Ln):(oR L a).length<=L.length+1:=by
 unfold oR
 split
 ·simp
 ·obtain ⟨j,hj,e,_⟩:=ahG L a.key
  rw [e,Int.toNat_natCast,aoT hj];exact Nat.le_refl _
theorem BsS.drop {n:Nat} {b:Bs} (h:BsS n b) (k key:Int):BsS n (azN b k key):=by
 rw [avR]
 refine h.set k ?_ λl hl=> ?_
 ·split
  ·exact Nat.le_trans (List.length_eraseIdx_le ..) (h.lines k).1
  ·exact (h.lines k).1
 ·split at hl
  ·exact (h.lines k).2 l (List.mem_of_mem_eraseIdx hl)
  ·exact (h.lines k).2 l hl
theorem BsS.p {n:Nat} {b:Bs} (h:BsS n b) (hn:n<=1000):∀d∈b,d.lines.length<1000000000000/\∀x∈d.lines,x.by_.length<1000000000000/\x.cells_.length<1000000000000/\∀c∈x.cells_,c.parts.length<1000000000000:=λd hd=>by
 obtain ⟨h1,h2⟩:=h.2 d hd
 refine ⟨by omega,λx hx=> ?_⟩
 obtain ⟨q1,q2,q3⟩:=h2 x hx
 exact ⟨by omega,by omega,λc hc=>by have:=q3 c hc;omega⟩
theorem BsS.l {n:Nat} {b:Bs} (h:BsS n b) (hn:n<=1000):b.length<100000000000/\∀d∈b,d.lines.length<100000000000:=⟨by have:=h.1;omega,λd hd=>by have:=(h.2 d hd).1;omega⟩
def BsB (b:Bs):Prop:=b.length<200000000000000/\∀d∈b,d.lines.length<200000000000000/\∀l∈d.lines,l.cells_.length<4611686018427387904
end Go.Proofs.YtloecjjehapblaaGreatDoor
namespace Go.Proofs.YtloecjjehapblaaGreatDoor
open Go Go.Abs Go.ChangeShapes Go.WideShapes Go.ChangeAt Go.RowKit
set_option maxRecDepth 10000
theorem own :ownKnob Tryz.prog.godebug=none:=by kernel_rfl
theorem laid :laidOutB Tryz.prog=true:=by kernel_rfl
theorem full (t e:TypeId) (h:t<Tryz.prog.types.size) (hu:Tryz.prog.underlying t=some (.slice e)):0<Tryz.prog.cellsOf e:=
 of_decide_eq_true (adD (λ_ e=>decide (0<Tryz.prog.cellsOf e)) (by kernel_rfl) t e h hu)
theorem aGQ (t e:TypeId) (h:t<Tryz.prog.types.size) (hu:Tryz.prog.underlying t=some (.slice e)):1<=Tryz.prog.bytesOf e:=
 of_decide_eq_true (adD (λ_ e=>decide (1<=Tryz.prog.bytesOf e)) (by kernel_rfl) t e h hu)
theorem wQ {α:Type} {f:α->List PV} {Q:α->Prop} {rows:List (List PV)} (h:∀r∈rows,∃a,r=f a/\Q a):∃l:List α,rows=l.map f/\l.length=rows.length/\∀a∈l,Q a:=by
 obtain ⟨l,rfl,hl⟩:=aAt h
 exact ⟨l,rfl,by simp,hl⟩
section
theorem ajF {N n:Nat} {ps:List PV} (h:bI Tryz.prog N n 57 ps):∃v:Vl,ps=v.cells:=by
 obtain ⟨m,pss,_,rfl,h2⟩:=bU aF rfl h
 cases h2 with|cons ha h2=>cases h2 with|cons hb h2=>cases h2 with|cons hc h2=>cases h2 with|nil=>
 obtain ⟨a,rfl,_⟩:=bN aF rfl ha
 obtain ⟨b,rfl,_⟩:=bN aF rfl hb
 obtain ⟨c,rfl,_⟩:=vY aF rfl hc
 exact ⟨⟨a,b,c⟩,rfl⟩
theorem aqH {N n:Nat} {ps:List PV} (h:bI Tryz.prog N n 59 ps):∃v:Dt,ps=v.cells:=by
 obtain ⟨m,pss,_,rfl,h2⟩:=bU aF rfl h
 cases h2 with|cons ha h2=>cases h2 with|cons hb h2=>cases h2 with|nil=>
 obtain ⟨a,rfl,_⟩:=bN aF rfl ha
 obtain ⟨b,rfl,_⟩:=bN aF rfl hb
 exact ⟨⟨a,b⟩,rfl⟩
theorem aGi {N n:Nat} {ps:List PV} (h:bI Tryz.prog N n 190 ps):∃v:Pt,ps=v.cells:=by
 obtain ⟨m,pss,_,rfl,h2⟩:=bU aF rfl h
 cases h2 with|cons ha h2=>cases h2 with|cons hb h2=>cases h2 with|cons hc h2=>cases h2 with|cons hd h2=>cases h2 with|cons he h2=>cases h2 with|cons hf h2=>cases h2 with|cons hg h2=>cases h2 with|nil=>
 obtain ⟨a,rfl⟩:=ajF ha
 obtain ⟨b,rfl⟩:=aqH hb
 obtain ⟨c,rfl,_⟩:=bN aF rfl hc
 obtain ⟨d,rfl,_⟩:=bN aF rfl hd
 obtain ⟨e,rfl⟩:=aqH he
 obtain ⟨f,rfl,_⟩:=bN aF rfl hf
 obtain ⟨g,rfl⟩:=aaR aF rfl hg
 exact ⟨⟨a,b,c,d,e,f,g⟩,rfl⟩
def CB (c:Cl):Prop:=c.parts.length<=reachBytes
theorem aGD {n:Nat} {ps:List PV} (h:bI Tryz.prog reachBytes n 80 ps):∃v:Cl,ps=v.cells/\CB v:=by
 obtain ⟨m,pss,_,rfl,h2⟩:=bU aF rfl h
 cases h2 with|cons ha h2=>cases h2 with|cons hb h2=>cases h2 with|cons hc h2=>cases h2 with|nil=>
 obtain ⟨a,rfl,_⟩:=bN aF rfl ha
 obtain ⟨b,rfl⟩:=ajF hb
 obtain ⟨_,rows,_,rfl,hl,hr⟩:=cF aF rfl hc
 obtain ⟨c,rfl⟩:=qL (f:=Pt.cells) λr hr'=>aGi (hr r hr')
 exact ⟨⟨a,b,c⟩,rfl,by show c.length<=_;simpa using hl⟩
def LB (l:Ln):Prop:=l.cells_.length<=reachBytes/\l.by_.length<=reachBytes/\∀c∈l.cells_,CB c
theorem aFX {n:Nat} {ps:List PV} (h:bI Tryz.prog reachBytes n 67 ps):∃v:Ln,ps=v.cells/\LB v:=by
 obtain ⟨m,pss,_,rfl,h2⟩:=bU aF rfl h
 cases h2 with|cons ha h2=>cases h2 with|cons hb h2=>cases h2 with|cons hc h2=>cases h2 with|nil=>
 obtain ⟨a,rfl,_⟩:=bN aF rfl ha
 obtain ⟨_,rows,_,rfl,hl,hr⟩:=cF aF rfl hb
 obtain ⟨b,rfl,hbl,hq⟩:=wQ λr hr'=>aGD (hr r hr')
 obtain ⟨_,rows2,_,rfl,hl2,hr2⟩:=cF aF rfl hc
 obtain ⟨c,rfl⟩:=qL (f:=Dt.cells) λr hr'=>aqH (hr2 r hr')
 exact ⟨⟨a,b,c⟩,rfl,by simpa using hl,by simpa using hl2,hq⟩
def DB (d:Da):Prop:=d.lines.length<=reachBytes/\∀l∈d.lines,LB l
theorem aGb {n:Nat} {ps:List PV} (h:bI Tryz.prog reachBytes n 86 ps):∃v:Da,ps=v.cells/\DB v:=by
 obtain ⟨m,pss,_,rfl,h2⟩:=bU aF rfl h
 cases h2 with|cons hb h2=>cases h2 with|nil=>
 obtain ⟨_,rows,_,rfl,hl,hr⟩:=cF aF rfl hb
 obtain ⟨b,rfl,hbl,hq⟩:=wQ λr hr'=>aFX (hr r hr')
 exact ⟨⟨b⟩,rfl,by simpa using hl,hq⟩
def BB (b:Bs):Prop:=b.length<=reachBytes/\∀d∈b,DB d
theorem aGK {n:Nat} {ps:List PV} (h:bI Tryz.prog reachBytes n 27 ps):∃v:{b:Bs//BB b},ps=bsC v.1:=by
 obtain ⟨m,pss,_,rfl,h2⟩:=bU aF rfl h
 cases h2 with|cons hb h2=>cases h2 with|nil=>
 obtain ⟨_,rows,_,rfl,hl,hr⟩:=cF aF rfl hb
 obtain ⟨b,rfl,hbl,hq⟩:=wQ λr hr'=>aGb (hr r hr')
 exact ⟨⟨b,by simpa using hl,hq⟩,rfl⟩
theorem LB.c {l:Ln} (h:LB l):l.cells_.length<4611686018427387904:=Nat.lt_of_le_of_lt h.1 (by decide)
theorem BB.b {b:Bs} (h:BB b):BsB b:=⟨Nat.lt_of_le_of_lt h.1 (by decide),λd hd=>⟨Nat.lt_of_le_of_lt (h.2 d hd).1 (by decide),λl hl=>((h.2 d hd).2 l hl).c⟩⟩
theorem aoN {N:Nat} {t:TypeId} {p:PV} (ha:kH tt t=some true) (h:pT Tryz.prog N t p):∃n cs,p= .agg cs/\bI Tryz.prog N n t cs:=by
 obtain ⟨n,⟨_,cs,h1,h2⟩|⟨h1,_⟩⟩:=h
 ·exact ⟨n,cs,h1,h2⟩
 ·rw [(bW aF ha).1] at h1;cases h1
theorem aA6 {N:Nat} {t:TypeId} {p:PV} (ha:kH tt t=some false) (h:pT Tryz.prog N t p):∃n,bI Tryz.prog N n t [p]:=by
 obtain ⟨n,⟨h1,_⟩|⟨_,h2⟩⟩:=h
 ·rw [(bW aF ha).1] at h1;cases h1
 ·exact ⟨n,h2⟩
end
end Go.Proofs.YtloecjjehapblaaGreatDoor
namespace Go.Proofs.YtloecjjehapblaaGreatDoor
open Go
set_option maxRecDepth 100000
noncomputable def wL (os:Os):World:={World.doorLaid Tryz.prog 19 os with heap:=(World.doorLaid Tryz.prog 19 os).heap.setIfInBounds 1 (.cells (Pinned.utf8FirstZ.map λn:Nat=>Value.int .u8 (n:Int)).toArray 450 (0,0))}
theorem avF (os:Os) (args:Array Value):((wL os).forCall (λ_ _=>0) ⟨#[],args,[]⟩).Shaped Tryz.prog:=World.shaped_of_RefB (by kernel_rfl) (by kernel_rfl)
theorem aFr (os : Os) (args : Array Value) : laidMetH Tryz.prog [("unicode/utf8.acceptRanges", Rows.laid_unicode_utf8_acceptRanges), ("unicode/utf8.first", Rows.laid_unicode_utf8_first)] ((wL os).forCall (λ_ _ => 0) ⟨#[], args, []⟩).memory :=
  laidMetH_of_parts3 (fuel:=8) (laidMet_of_run' 8 (by kernel_rfl) (by kernel_rfl)) (by kernel_rfl) (by kernel_rfl)
end Go.Proofs.YtloecjjehapblaaGreatDoor
namespace Go.Proofs.YtloecjjehapblaaGreatDoor
open Go Go.Abs
set_option maxRecDepth 10000
set_option maxHeartbeats 4000000
theorem pJ {a b c:Dt} (h1:bG b a=true) (h2:bG c b=true):bG c a=true:=by
 unfold bG at*
 simp only [Bool.or_eq_true,zba,zde] at*
 omega
theorem vZ {a b:Dt} (h:bG a b=false) (hne:a≠b):bG b a=true:=by
 rw [Ne,Dt.ext_iff] at hne
 unfold bG at*
 simp only [Bool.or_eq_true,zba,zde,Bool.or_eq_false_iff,Bool.and_eq_false_iff,decide_eq_false_iff_not] at*
 omega
def asW (l:List Dt):Prop:=l.Pairwise λa b=>bG b a=true
def awN (l:List Dt) (d:Dt):List Dt:=if d∈l then l else cE l (fO l d) [d]
theorem aAD (l:Ln) (d:Dt):dD l d={l with by_:=awN l.by_ d}:=by
 unfold dD awN
 split<;>rfl
theorem axY (l:List Dt) (d x:Dt):x∈awN l d↔x=d\/x∈l:=by
 unfold awN
 split
 ·rename_i h
  exact ⟨.inr,λq=>by rcases q with rfl|q<;>assumption⟩
 ·unfold cE
  have e:=List.take_append_drop (fO l d) l
  conv=>rhs;rw [<-e]
  simp only [zma,List.mem_singleton]
  grind
theorem auB {l:List Dt} (h:asW l) (d:Dt):asW (awN l d):=by
 unfold awN
 split
 ·exact h
 rename_i hd
 unfold cE asW
 have e:=List.take_append_drop (fO l d) l
 have hp:=h
 unfold asW at hp
 rw [<-e,List.pairwise_append] at hp
 have hlo:∀x∈l.take (fO l d),bG d x=true:=λx hx=>by
  obtain ⟨q,hq,rfl⟩:=List.getElem_of_mem hx
  rw [zlt] at hq
  rw [List.getElem_take]
  exact vZ (aBy (by omega) (by omega)) λq=>hd (q▸zgm _)
 have hhi:∀x∈l.drop (fO l d),bG x d=true:=λx hx=>by
  obtain ⟨q,hq,rfl⟩:=List.getElem_of_mem hx
  rw [zld] at hq
  rw [List.getElem_drop]
  have h0:=aAf (L:=l) rfl (show fO l d<l.length by omega)
  rcases Nat.eq_zero_or_pos q with rfl|hq0
  ·exact h0
  ·exact pJ h0 (List.pairwise_iff_getElem.1 h _ _ (by omega) (by omega) (by omega))
 rw [List.pairwise_append,List.pairwise_append]
 refine ⟨⟨hp.1,List.pairwise_singleton ..,λx hx y hy=> ?_⟩,hp.2.1,λx hx y hy=> ?_⟩
 ·rw [List.mem_singleton.1 hy];exact hlo x hx
 ·rcases zma.1 hx with q|q
  ·exact hp.2.2 x q y hy
  ·rw [List.mem_singleton.1 q];exact hhi y hy
def upR (l:List Dt) (k:Nat):Bool:=decide (k=0)||bG l[k]! l[k-1]!
theorem aDO {l:List Dt} (h:∀k<l.length,upR l k=true):asW l:=by
 have key:∀j (hj:j<l.length) i (hi:i<j),bG l[j] (l[i]'(by omega))=true:=by
  intro j
  induction j with
  |zero=>intro _ i hi;exact absurd hi (Nat.not_lt_zero _)
  |succ j ih=>
   intro hj i hi
   have:=h (j+1) hj
   unfold upR at this
   rw [getElem!_pos l (j+1) hj,show j+1-1=j from rfl,getElem!_pos l j (by omega)] at this
   have this:bG l[j+1] l[j]=true:=by simpa using this
   rcases Nat.lt_succ_iff_lt_or_eq.1 hi with q|q
   ·exact pJ (ih (by omega) i q) this
   ·subst q;exact this
 exact List.pairwise_iff_getElem.2 λi j hi hj hij=>key j hj i hij
end Go.Proofs.YtloecjjehapblaaGreatDoor
namespace Go.Proofs.YtloecjjehapblaaGreatDoor.T
open Go Go.Abs
set_option maxRecDepth 10000
set_option maxHeartbeats 4000000
structure Sp where
 time:Int
 dev:Int
 seq:Int
 deriving DecidableEq,Inhabited
def Sp.cells (a:Sp):List PV:=[.val (.int .i64 (a.time)), .val (.int .i64 (a.dev)), .val (.int .i64 (a.seq))]
def Sp.zero :Sp:=⟨0,0,0⟩
theorem Sp.ext_iff (a b:Sp):a=b↔a.time=b.time/\a.dev=b.dev/\a.seq=b.seq:=by cases a;cases b;simp
theorem Sp.eqb (a b:Sp):(decide (a.time=b.time)&&(decide (a.dev=b.dev)&&(decide (a.seq=b.seq))))=decide (a=b):=by rw [Bool.eq_iff_iff];simp [Sp.ext_iff]
structure Nm where
 dot:Dt
 at_:Int
 deriving DecidableEq,Inhabited
def Nm.cells (a:Nm):List PV:=[.val (.int .i64 (a.dot.dev)), .val (.int .i64 (a.dot.seq)), .val (.int .i64 (a.at_))]
def Nm.zero :Nm:=⟨Dt.zero,0⟩
theorem Nm.ext_iff (a b:Nm):a=b↔a.dot=b.dot/\a.at_=b.at_:=by cases a;cases b;simp
theorem Nm.eqb (a b:Nm):(decide (a.dot=b.dot)&&(decide (a.at_=b.at_)))=decide (a=b):=by rw [Bool.eq_iff_iff];simp [Nm.ext_iff]
theorem Nm.eqz (a:Nm):(decide (a.dot=Dt.zero)&&(decide (a.at_=0)))=decide (a=Nm.zero):=by rw [Bool.eq_iff_iff];simp [Nm.ext_iff,Nm.zero]
end Go.Proofs.YtloecjjehapblaaGreatDoor.T
