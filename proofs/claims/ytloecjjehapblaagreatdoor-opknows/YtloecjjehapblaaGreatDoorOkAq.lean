import Derived.Test.YtloecjjehapblaaGreatDoorOkAp
import Derived.Test.YtloecjjehapblaaGreatDoorAcK
import Derived.Test.YtloecjjehapblaaGreatDoorAcG
import Derived.Test.YtloecjjehapblaaGreatDoorOkAm
set_option linter.unusedSimpArgs false
set_option linter.unusedVariables false
namespace Go.Proofs.YtloecjjehapblaaGreatDoor
open Go Go.Abs
attribute [local irreducible] Ev PWp
set_option maxRecDepth 10000
set_option maxHeartbeats 4000000
theorem aCZ {α:Type} (f:α->Bool) (l:List α):decide (cS f l>=0)=l.any f:=by
 unfold cS
 cases h:l.findIdx? f with
 |none=>
  have:=List.findIdx?_eq_none_iff.1 h
  rw [Bool.eq_iff_iff,List.any_eq_true]
  simp only [zde]
  constructor
  ·intro q;omega
  ·rintro ⟨y,hy,q⟩
   have:=this y hy
   rw [q] at this;cases this
 |some k=>
  obtain ⟨q1,q2,_⟩:=List.findIdx?_eq_some_iff_getElem.1 h
  rw [Bool.eq_iff_iff,List.any_eq_true]
  constructor
  ·exact λ_=>⟨_,zgm q1,q2⟩
  ·intro _;simp
theorem auX (fid:FuncId) (caps:List PV) (f:Int->Bool) (l:List Int) (hl:l.length<4611686018427387904) (hf:∀p,PF Tryz.prog fid ([(.val (.int .i64 p))]++caps) (.val (.bool (f p)))):PF Tryz.prog 302 [.seq (l.map I1), .fn fid caps] (.val (.int .i64 (cS f l))):=by
 refine aG aF Tryz.func302 (by kernel_rfl) rfl rfl rfl rfl (λst=> ?_)
 (try apply wO pk;rfl);(repeat' ((show Cn _;constructor)))
 refine aK (X:={x:Nat//x<=l.length/\∀j (h:j<x) (h2:j<l.length),f l[j]=false}) (λi=>(((((St.nil 19 st).pv 0 (.seq (l.map I1))).pv 1 (.fn fid caps)).pv 7 ((PV.val (Value.int .i64 ((((l.map I1)).length:Nat)))))).pv 8 ((PV.val (Value.int .i64 ((i.1:Nat))))))) (λi=>l.length-i.1) ⟨0,by omega,by omega⟩ ?_ (λi=> ?_)
 ·((repeat refine Sub.pv ?_ rfl);exact Sub.nil _ _ _ (zsr _) rfl)
 obtain ⟨i,hi,hinv⟩:=i
 dsimp only
 (try apply wO pk;rfl);(repeat' first|show Cn _;constructor|apply wC pk;rfl;rfl|apply wE pk;rfl;rfl|refine aB rfl ?_ ?_<;>intro h<;>(try simp at h)<;>try omega|(refine aC ?_;refine ⟨_,_,_,rfl,zwr _,zsr _, ?_,rfl⟩;try first|rfl|(first|unfold cS;rw [nO ‹_› ‹_› hinv];done|unfold cS;rw [nA ‹_› hinv]);done)|(apply aH;rfl;rfl;rfl;(intro _;apply hf<;>first|assumption|omega);rotate_left;rfl;rfl)|apply aP pk;(iterate 6 rfl);rotate_left;rfl;(intro hw;rfl);(intro hw;apply aJ<;>omega);(intro _;rfl);rfl|refine ⟨⟨i+1,by omega,λj h1 h2=>by rcases zls.1 h1 with q|q;exact hinv j q h2;subst q;assumption⟩, ?_,by simp only;omega⟩;((repeat refine Sub.pv ?_ rfl);exact Sub.nil _ _ _ (zsr _) rfl)|intros;(try simp only [zql]);omega)
theorem auH (n:Int):PF Tryz.prog 227 [(.val (.int .i64 n))] (.val (.bool (!okV n))):=by
 have e:(!okV n)=(decide (n<0)||decide (n>1048576)):=by unfold okV;rw [Bool.eq_iff_iff];simp<;>omega
 rw [e]
 refine aG aF Tryz.func227 (by kernel_rfl) rfl rfl rfl rfl (λst=> ?_)
 (try apply wO pk;rfl);(repeat' first|show Cn _;constructor|(refine aC ?_;refine ⟨_,_,_,rfl,zwr _,zsr _, ?_,rfl⟩;try rfl))
theorem agK (v:List Int) (hl:v.length<1000000000000):PF Tryz.prog 149 [.seq (v.map I1)] (.val (.bool (ayZ v))):=by
 have hx:=auX 227 [] (λn=> !okV n) v (by omega) auH
 have hc:PF Tryz.prog 228 [.seq (v.map I1), .fn 227 []] (.val (.bool (v.any λn=> !okV n))):=by
  rw [<-aCZ]
  generalize cS (λn=> !okV n) v=X at*
  refine aG aF Tryz.func228 (by kernel_rfl) rfl rfl rfl rfl (λst=> ?_)
  (try apply wO pk;rfl);(repeat' first|show Cn _;constructor|apply wE pk;rfl;rfl|(refine aC ?_;refine ⟨_,_,_,rfl,zwr _,zsr _, ?_,rfl⟩;try rfl)|(apply aH;rfl;rfl;rfl;(intro _;apply hx<;>first|assumption|omega);rotate_left;rfl;rfl))
 have e:ayZ v=(decide ((v.length:Int)<=64)&& !(v.any λn=> !okV n)):=by
  unfold ayZ
  rw [Bool.eq_iff_iff]
  simp
  omega
 rw [e]
 generalize (v.any λn=> !okV n)=A at*
 refine aG aF Tryz.func149 (by kernel_rfl) rfl rfl rfl rfl (λst=> ?_)
 (try apply wO pk;rfl);(repeat' first|show Cn _;constructor|apply wE pk;rfl;rfl|(refine aC ?_;refine ⟨_,_,_,rfl,zwr _,zsr _, ?_,rfl⟩;try first|rfl|(simp only [zql];done);done)|(apply aH;rfl;rfl;rfl;(intro _;apply hc<;>first|assumption|omega);rotate_left;rfl;rfl))
theorem ayJ (v:List Int) (d:Int) (hl:v.length<1000000000000):PF Tryz.prog 368 [.seq (v.map I1),(.val (.int .i64 d))] (.val (.int .i64 (ofV v d))):=by
 unfold ofV
 by_cases h:d<1\/d>v.length
 ·rw [zp h]
  refine aG aF Tryz.func368 (by kernel_rfl) rfl rfl rfl rfl (λst=> ?_)
  (try apply wO pk;rfl);(repeat' first|show Cn _;constructor|apply wC pk;rfl;rfl|refine aB rfl ?_ ?_<;>intro h<;>(try simp at h)<;>try omega|(refine aC ?_;refine ⟨_,_,_,rfl,zwr _,zsr _, ?_,rfl⟩;try rfl))
 ·rw [zn h]
  obtain ⟨k,hk⟩:∃k:Nat,d=k+1:=⟨(d-1).toNat,by omega⟩
  have hkl:k<v.length:=by omega
  have e:(d-1).toNat=k:=by omega
  rw [e,getElem!_pos v k hkl]
  have hd1:d-1=((k:Nat):Int):=by omega
  refine aG aF Tryz.func368 (by kernel_rfl) rfl rfl rfl rfl (λst=> ?_)
  (try apply wO pk;rfl);(repeat' first|show Cn _;constructor|apply wC pk;rfl;rfl|apply wE pk;rfl;rfl|refine aB rfl ?_ ?_<;>intro h<;>(try simp at h)<;>try omega|(refine aC ?_;refine ⟨_,_,_,rfl,zwr _,zsr _, ?_,rfl⟩;try rfl)|apply aP pk;(iterate 6 rfl);rotate_left;rfl;(intro hw;exact hd1);(intro hw;apply aJ<;>omega);(intro _;rfl);rfl|intros;(try simp only [zql]);omega)
theorem aeF (v:List Int) (d:Dt) (hl:v.length<1000000000000):PF Tryz.prog 314 [.seq (v.map I1), .agg d.cells] (.val (.bool (alK v d))):=by
 have h:=ayJ v d.dev hl
 unfold alK
 generalize ofV v d.dev=N at*
 refine aG aF Tryz.func314 (by kernel_rfl) rfl rfl rfl rfl (λst=> ?_)
 (try apply wO pk;rfl);(repeat' first|show Cn _;constructor|apply wE pk;rfl;rfl|apply wD pk [] [];kernel_rfl;rfl;rfl|(refine aC ?_;refine ⟨_,_,_,rfl,zwr _,zsr _, ?_,rfl⟩;try rfl)|(apply aH;rfl;rfl;rfl;(intro _;apply h<;>first|assumption|omega);rotate_left;rfl;rfl))
theorem wkC (n:Int):Wk (.agg [(PV.val (Value.int .i64 (2))),(PV.val (Value.int .i64 (1))),(PV.val (Value.int .i64 (n))), .val (.string e0), .val (.slice none 0 0)]) (.agg (oM n).cells):= .agg (.cons (zwr _) (.cons (zwr _) (.cons (zwr _) (.cons (zwr _) (.cons Wk.nil .nil)))))
def inL (n:Int):Prop:= -4398046511104<=n/\n<=4398046511104
theorem axV {l:List Int} {i:Nat} (h:i<l.length):(l.take (i+1)).sum=(l.take i).sum+l[i]:=by
 rw [List.take_succ_eq_append_getElem h,List.sum_append];simp
theorem aEa {l:List Int} (h:∀n∈l,inL n): -4398046511104*(l.length:Int)<=l.sum/\l.sum<=4398046511104*(l.length:Int):=by
 induction l with
 |nil=>simp
 |cons a l ih=>
  have h1:=h a (by simp)
  have h2:=ih λn hn=>h n (List.mem_cons_of_mem _ hn)
  unfold inL at h1
  rw [List.sum_cons,zlc]
  omega
theorem uR (l:List Int) (hl:l.length<=10) (h:∀n∈l,inL n):PF Tryz.prog 316 [.seq (l.map I1)] (.agg (oM l.sum).cells):=by
 refine aG aF Tryz.func316 (by kernel_rfl) rfl rfl rfl rfl (λst=> ?_)
 focus ((try apply wO pk;rfl);(repeat' ((show Cn _;constructor))))
 refine aK (X:={x:Nat//x<=l.length}) (λi=>((((((St.nil 19 st).var 2 80 ([(PV.val (Value.int .i64 (0))),(PV.val (Value.int .i64 (0))),(PV.val (Value.int .i64 (0))),(PV.val (Value.string (e0))), .val (.slice none 0 0)])).pv 3 ((PV.val (Value.int .i64 ((l.take i.1).sum))))).pv 6 (.seq (l.map I1))).pv 7 ((PV.val (Value.int .i64 ((((l.map I1)).length:Nat)))))).pv 8 ((PV.val (Value.int .i64 ((i.1:Nat))))))) (λi=>l.length-i.1) ⟨0,by omega⟩ ?_ (λi=> ?_)
 ·((repeat (first|refine Sub.pv ?_ rfl|refine Sub.var ?_ rfl rfl));exact Sub.nil _ _ _ (zsr _) rfl)
 obtain ⟨i,hi⟩:=i
 dsimp only
 by_cases hend:l.length<=i
 ·rw [ztl hend]
  (try apply wO pk;rfl);(repeat' first|refine aC ?_;exact ⟨_,_,_,rfl,wkC _,zsr _,rfl,rfl⟩|show Cn _;constructor|apply wC pk;rfl;rfl|refine aB rfl ?_ ?_<;>intro h<;>(try simp at h)<;>try omega)
 have hil:i<l.length:=by omega
 have hn:=h _ (zgm hil)
 have hs:=aEa (l:=l.take i) λn hn=>h n (List.mem_of_mem_take hn)
 have hti:(l.take i).length=i:=by rw [zlt];omega
 have e:=axV hil
 rw [hti] at hs
 unfold inL at hn
 generalize (l.take i).sum=S at*
 (try apply wO pk;rfl);(repeat' first|show Cn _;constructor|apply wC pk;rfl;rfl|apply wE pk;rfl;rfl|refine aB rfl ?_ ?_<;>intro h<;>(try simp at h)<;>try omega|apply aP pk;(iterate 6 rfl);rotate_left;rfl;(intro hw;rfl);(intro hw;apply aJ<;>omega);(intro _;rfl);rfl|(refine ⟨⟨i+1,by omega⟩, ?_,by simp only;omega⟩;((dsimp only;rw [e]));((repeat (first|refine Sub.pv ?_ rfl|refine Sub.var ?_ rfl rfl));exact Sub.nil _ _ _ (zsr _) rfl))|intros;(try simp only [zql]);omega)
end Go.Proofs.YtloecjjehapblaaGreatDoor
namespace Go.Proofs.YtloecjjehapblaaGreatDoor.T
open Go Go.Abs
section
set_option maxRecDepth 10000
set_option maxHeartbeats 4000000
structure Keeps (g:Pt->Pt):Prop where
 val:∀p,(g p).val=p.val
 dot:∀p,(g p).dot=p.dot
 at_:∀p,(g p).at_=p.at_
 time:∀p,(g p).time=p.time
 after:∀p,(g p).after=p.after
 afterAt:∀p,(g p).afterAt=p.afterAt
theorem Keeps.name {g:Pt->Pt} (hg:Keeps g) (p:Pt):aM (g p)=aM p:=by unfold aM;rw [hg.dot,hg.at_]
theorem Keeps.parent {g:Pt->Pt} (hg:Keeps g) (p:Pt):bG (g p)=bG p:=by unfold bG;rw [hg.after,hg.afterAt]
theorem Keeps.stamp {g:Pt->Pt} (hg:Keeps g) (p:Pt):bL (g p)=bL p:=by unfold bL;rw [hg.dot,hg.time]
theorem Keeps.formed {g:Pt->Pt} (hg:Keeps g) (p:Pt):bS (g p)=bS p:=by unfold bS;rw [hg.val,hg.time,hg.name,hg.parent]
theorem Keeps.ahead {g:Pt->Pt} (hg:Keeps g) (a b:Pt):eM (g a) (g b)=eM a b:=by unfold eM;rw [hg.stamp,hg.stamp,hg.at_,hg.at_]
theorem Keeps.names {g:Pt->Pt} (hg:Keeps g) (l:List Pt):(l.map g).map aM=l.map aM:=by
 rw [List.map_map];exact List.map_congr_left λp _=>hg.name p
theorem Keeps.whole {g:Pt->Pt} (hg:Keeps g) (l:List Pt):Whole (l.map g)↔Whole l:=by
 constructor
 ·intro h
  refine ⟨⟨λp hp=> ?_, ?_,λp hp q hq e=> ?_⟩,λp hp=> ?_⟩
  ·rw [<-hg.formed];exact h.formed _ (List.mem_map_of_mem hp)
  ·rw [<-hg.names];exact h.nodup
  ·rw [<-hg.time p,<-hg.time q];exact h.times _ (List.mem_map_of_mem hp) _ (List.mem_map_of_mem hq) (by rw [hg.dot,hg.dot,e])
  ·rcases h.up _ (List.mem_map_of_mem hp) with e|⟨u',hu',e1,e2⟩
   ·left;rw [<-hg.parent];exact e
   ·obtain ⟨u,hu,rfl⟩:=List.mem_map.1 hu'
    right;exact ⟨u,hu,by rw [<-hg.name,e1,hg.parent],by rw [<-hg.ahead u p];exact e2⟩
 ·intro h
  refine ⟨⟨λp' hp'=> ?_, ?_,λp' hp' q' hq' e=> ?_⟩,λp' hp'=> ?_⟩
  ·obtain ⟨p,hp,rfl⟩:=List.mem_map.1 hp';rw [hg.formed];exact h.formed p hp
  ·rw [hg.names];exact h.nodup
  ·obtain ⟨p,hp,rfl⟩:=List.mem_map.1 hp'
   obtain ⟨q,hq,rfl⟩:=List.mem_map.1 hq'
   rw [hg.time,hg.time];exact h.times p hp q hq (by rw [hg.dot,hg.dot] at e;exact e)
  ·obtain ⟨p,hp,rfl⟩:=List.mem_map.1 hp'
   rcases h.up p hp with e|⟨u,hu,e1,e2⟩
   ·left;rw [hg.parent];exact e
   ·right;exact ⟨g u,List.mem_map_of_mem hu,by rw [hg.name,e1,hg.parent],by rw [hg.ahead];exact e2⟩
theorem Keeps.anc {g:Pt->Pt} (hg:Keeps g) {l:List Pt} {p:Pt} {s:List Pt} (h:Anc l p s):Anc (l.map g) (g p) (s.map g):=by
 induction h with
 |root hp h0=>exact .root (List.mem_map_of_mem hp) (by rw [hg.parent];exact h0)
 |step hp hu e h0 _ ih=>rw [List.map_append];exact .step (List.mem_map_of_mem hp) (List.mem_map_of_mem hu) (by rw [hg.name,hg.parent];exact e) (by rw [hg.parent];exact h0) ih
theorem Keeps.lex {g:Pt->Pt} (hg:Keeps g):∀{s t:List Pt},qJ s t->qJ (s.map g) (t.map g)
 |_,[],h=>by cases ‹List Pt› <;>exact h.elim
 |[],_::_,_=>trivial
 |a::s,b::t,h=>by
  rcases h with ⟨rfl,h⟩|h
  ·exact .inl ⟨rfl,hg.lex h⟩
  ·refine .inr ?_
   rw [fB,hg.time,hg.time,hg.dot,hg.dot,hg.at_,hg.at_,<-fB];exact h
theorem Keeps.order {g:Pt->Pt} (hg:Keeps g) (l:List Pt):dD (l.map g)=(dD l).map g:=by
 by_cases hW:Whole l/\l.length<=2000
 ·obtain ⟨h1,h2⟩:=gO hW.1 hW.2
  refine xE ((hg.whole l).2 hW.1) (by rw [zql];exact hW.2) (h1.map g) ?_
  rw [List.pairwise_map]
  exact h2.imp λ⟨s,t,a,b,c⟩=>⟨_,_,hg.anc a,hg.anc b,hg.lex c⟩
 ·rw [kH hW,kH (by rw [hg.whole,zql];exact hW)];rfl
def gE (k:Nm) (p:Pt):Pt:=if aM p=k then xP p else p
theorem iD (k:Nm) (l:List Pt):dX k l=l.map (gE k):=rfl
theorem fH (k:Nm):Keeps (gE k):=by
 constructor<;>intro p<;>unfold gE xP<;>split<;>rfl
theorem aDx (j k:Nm) (p:Pt):gE j (gE k p)=gE k (gE j p):=by
 have h1:=(fH k).name p
 have h2:=(fH j).name p
 show (if aM (gE k p)=j then xP (gE k p) else gE k p)=if aM (gE j p)=k then xP (gE j p) else gE j p
 rw [h1,h2]
 unfold gE
 by_cases e1:aM p=k
 ·by_cases e2:aM p=j
  ·rw [zp e1,zp e2,zp e2,zp e1]
  ·rw [zp e1,zn e2,zn e2,zp e1]
 ·by_cases e2:aM p=j
  ·rw [zn e1,zp e2,zn e1]
  ·rw [zn e1,zn e2,zn e1]
theorem pL (j k:Nm) (l:List Pt):dX j (dX k l)=dX k (dX j l):=by
 simp only [iD,List.map_map];exact List.map_congr_left λp _=>aDx j k p
theorem eraseP_len (k:Nm) (c:Cl):(eraseP c k).parts.length=c.parts.length:=zql _
theorem ahB {c:Cl} (h1:c.kind=4) (h2:c.val=Vl.zero) (hW:Whole c.parts) (hl:c.parts.length<=2000) (ho:dD c.parts=c.parts):rightP c=0:=by
 unfold rightP
 rw [zn (by simp [h1]),zn (by simp [h2,(fX _).2 hW]),zn (by omega),zn (by simp [ho])]
theorem right_erase {c:Cl} (k:Nm) (h:rightP c=0):rightP (eraseP c k)=0:=by
 obtain ⟨h1,h2,hW,hl,ho⟩:=jP h
 refine ahB h1 h2 (((fH k).whole _).2 hW) (by rw [eraseP_len];exact hl) ?_
 show dD (c.parts.map (gE k))=c.parts.map (gE k)
 rw [(fH k).order,ho]
theorem adB {g:Pt->Pt} (hg:Keeps g) (d:Dt) (t:Int):∀(l:List Pt) (n:Int),wrF d t (l.map g) n=wrF d t l n
 |[],_=>rfl
 |p::r,n=>by simp only [zmp,wrF,hg.dot,hg.time,hg.at_,adB hg d t r]
theorem aqD {c:Cl} {w:Sp} {up:Nm} (h:eS c w up=0) (h0:up≠Nm.zero):∃u∈c.parts,aM u=up/\¬(bL u≠w/\jL (bL u) w=false):=by
 unfold eS at h
 rw [zn h0] at h
 cases hI:c.parts.findIdx? (λp=>decide (aM p=up)) with
 |none=>rw [hI] at h;cases h
 |some i=>
  rw [hI] at h
  obtain ⟨hk,hk1,_⟩:=List.findIdx?_eq_some_iff_getElem.1 hI
  simp only [zgg hk] at h
  refine ⟨c.parts[i],zgm hk,of_decide_eq_true hk1,λq=> ?_⟩
  rw [zp q] at h;cases h
theorem ajO {k:Nm} {t:List Pt} (h:∀x∈t,aM x≠k):t.map (gE k)=t:=by
 conv=>rhs;rw [<-List.map_id t]
 exact List.map_congr_left λx hx=>by unfold gE;rw [zn (h x hx)];rfl
theorem type_len (c:Cl) (s:ByteArray) (w:Sp) (up:Nm):(typeP c s w up).1.parts.length<=c.parts.length+s.size:=by
 unfold typeP
 split
 ·exact Nat.zero_le _
 ·split
  ·exact Nat.zero_le _
  ·split
   ·exact Nat.zero_le _
   ·split
    ·exact Nat.zero_le _
    ·refine Nat.le_trans (adX _) ?_
     rw [zla,qW];exact Nat.le_refl _
end
section
set_option maxRecDepth 10000
set_option maxHeartbeats 4000000
structure Is (c:Cl) (l:List Pt):Prop where
 kind:c.kind=4
 val:c.val=Vl.zero
 whole:Whole l
 len:l.length<=2000
 parts:c.parts=dD l
theorem Is.perm {c:Cl} {l:List Pt} (h:Is c l):c.parts.Perm l:=by rw [h.parts];exact (gO h.whole h.len).1
theorem Is.of {c:Cl} (h:rightP c=0):Is c c.parts:=by
 obtain ⟨h1,h2,hW,hl,ho⟩:=jP h
 exact ⟨h1,h2,hW,hl,ho.symm⟩
theorem Whole.perm' {l m:List Pt} (hp:l.Perm m) (h:Whole l):Whole m:=h.perm hp
theorem Is.right {c:Cl} {l:List Pt} (h:Is c l):rightP c=0:=by
 refine ahB h.kind h.val (h.whole.perm' h.perm.symm) (by rw [h.perm.length_eq];exact h.len) ?_
 rw [pG h.perm];exact h.parts.symm
theorem Is.eq {c d:Cl} {l m:List Pt} (h:Is c l) (h':Is d m) (hp:l.Perm m):c=d:=by
 obtain ⟨k,v,p⟩:=c
 obtain ⟨k',v',p'⟩:=d
 have e1:k=4:=h.kind
 have e2:k'=4:=h'.kind
 have e3:v=Vl.zero:=h.val
 have e4:v'=Vl.zero:=h'.val
 have e5:p=dD l:=h.parts
 have e6:p'=dD m:=h'.parts
 rw [e1,e2,e3,e4,e5,e6,pG hp]
theorem Is.erase {c:Cl} {l:List Pt} (h:Is c l) (k:Nm):Is (eraseP c k) (dX k l):=
 ⟨h.kind,h.val,((fH k).whole l).2 h.whole,by rw [iD,zql];exact h.len,by
  show dX k c.parts=_
  rw [h.parts,iD,iD,(fH k).order]⟩
def eZ (w:Sp):Dt:=⟨w.dev,w.seq⟩
def wOK (w:Sp):Prop:=withinB w.time 1 1125899906842624=true/\mayN ⟨⟨w.dev,w.seq⟩,0⟩=true
instance (w :Sp):Decidable (wOK w):=inferInstanceAs (Decidable (_/\_))
def wrL (l:List Pt) (w:Sp):Int:=if wOK w then wrF (eZ w) w.time l 0 else-1
theorem amX (c:Cl) (w:Sp):dI c w=wrL c.parts w:=rfl
theorem aAt {d:Dt} {t:Int} {l m:List Pt} (h:l.Perm m):∀n,wrF d t l n=wrF d t m n:=by
 induction h with
 |nil=>intro n;rfl
 |cons x _ ih=>intro n;simp only [wrF,ih]
 |swap x y l=>
  intro n
  simp only [wrF]
  by_cases h1:x.dot=d
  ·by_cases h2:y.dot=d
   ·simp only [h1,h2,ne_eq,not_true_eq_false,if_false]
    by_cases h3:x.time=t
    ·by_cases h4:y.time=t
     ·simp only [h3,h4,not_true_eq_false,if_false];congr 1;omega
     ·simp only [h3,h4,not_true_eq_false,not_false_eq_true,if_false,if_true]
    ·by_cases h4:y.time=t
     ·simp only [h3,h4,not_true_eq_false,not_false_eq_true,if_false,if_true]
     ·simp only [h3,h4,not_false_eq_true,if_true]
   ·simp only [h1,h2,ne_eq,not_true_eq_false,not_false_eq_true,if_false,if_true]
  ·simp only [h1,ne_eq,not_false_eq_true,if_true]
 |trans _ _ ih1 ih2=>intro n;rw [ih1,ih2]
theorem ayV {l m:List Pt} (h:l.Perm m) (w:Sp):wrL l w=wrL m w:=by unfold wrL;rw [aAt h]
theorem aeP {d:Dt} {t:Int}:∀{l:List Pt} {n:Int},0<=n->(∀p∈l,0<=p.at_)->wrF d t l n= -1\/n<=wrF d t l n
 |[],n,_,_=> .inr (Int.le_refl _)
 |p::r,n,h,hf=>by
  have hp:=hf p (by simp)
  have hr:∀q∈r,0<=q.at_:=λq hq=>hf q (by simp [hq])
  simp only [wrF]
  split
  ·exact aeP h hr
  ·split
   ·exact .inl rfl
   ·rcases aeP (d:=d) (t:=t) (n:=max n (p.at_+1)) (by omega) hr with e|e
    ·exact .inl e
    ·exact .inr (by omega)
theorem aeQ {d:Dt} {t:Int}:∀{l m:List Pt} {n:Int},0<=n->(∀p∈l,0<=p.at_)->0<=wrF d t l n->wrF d t (l++m) n=wrF d t m (wrF d t l n)
 |[],_,_,_,_,_=>rfl
 |p::r,m,n,h,hf,h0=>by
  have hp:=hf p (by simp)
  have hr:∀q∈r,0<=q.at_:=λq hq=>hf q (by simp [hq])
  rw [List.cons_append]
  simp only [wrF] at h0⊢
  split
  ·rename_i e;rw [zp e] at h0;exact aeQ h hr h0
  ·rename_i e
   rw [zn e] at h0
   split
   ·rename_i e2;rw [zp e2] at h0;omega
   ·rename_i e2;rw [zn e2] at h0;exact aeQ (by omega) hr h0
theorem aiN {d:Dt} {t:Int}:∀{l:List Pt} {n:Int},(∀p∈l,p.dot≠d)->wrF d t l n=n
 |[],_,_=>rfl
 |p::r,n,h=>by
  simp only [wrF]
  rw [zp (h p (by simp))]
  exact aiN λq hq=>h q (by simp [hq])
theorem sT {d:Dt} {t:Int} {m:List Pt} (h:∀p∈m,p.dot≠d):∀(l:List Pt) (n:Int),wrF d t (l++m) n=wrF d t l n
 |[],n=>aiN h
 |p::r,n=>by rw [List.cons_append];simp only [wrF,sT h r]
theorem afM {d:Dt} {t:Int}:∀{l:List Pt} {n:Int},(∀p∈l,0<=p.at_)->0<=n->0<=wrF d t l n->∀p∈l,p.dot=d->p.time=t/\p.at_<wrF d t l n
 |[],_,_,_,_,p,h,_=>by cases h
 |x::r,n,hf,hn,h0,p,hp,e=>by
  have hx:=hf x (by simp)
  have hr:∀q∈r,0<=q.at_:=λq hq=>hf q (by simp [hq])
  simp only [wrF] at h0⊢
  rcases zmc.1 hp with rfl|hp
  ·rw [zn (by simp [e])] at h0⊢
   split at h0
   ·omega
   ·rename_i e2
    rw [zn e2]
    refine ⟨by simpa using e2, ?_⟩
    rcases aeP (d:=d) (t:=t) (l:=r) (n:=max n (p.at_+1)) (by omega) hr with q|q<;>omega
  ·split at h0
   ·rename_i e2;rw [zp e2];exact afM hr hn h0 p hp e
   ·rename_i e2
    rw [zn e2]
    split at h0
    ·omega
    ·rename_i e3;rw [zn e3];exact afM hr (by omega) h0 p hp e
theorem aqY {w:Sp}:∀{bs:List UInt8} {n:Int} {up:Nm},∀x∈tyF w bs n up,x.dot=eZ w
 |[],_,_,x,h=>by cases h
 |b::r,n,up,x,h=>by
  rcases zmc.1 h with rfl|h
  ·rfl
  ·exact aqY x h
theorem ayU (w:Sp):∀(bs:List UInt8) (n:Int) (up:Nm),wrF (eZ w) w.time (tyF w bs n up) n=n+bs.length
 |[],n,_=>by simp [tyF,wrF]
 |b::r,n,up=>by
  rw [tyF]
  simp only [wrF]
  rw [zn (by simp [eZ]),zn (by simp),show max n (n+1)=n+1 by omega,ayU w r (n+1),zlc]
  omega
def dK (l:List Pt) (w:Sp) (up:Nm):Prop:=up=Nm.zero\/∃u∈l,aM u=up/\(bL u=w\/jL (bL u) w=true)
theorem anT {c:Cl} {w:Sp} {up:Nm} (hn:named c.parts):eS c w up=0↔dK c.parts w up:=by
 constructor
 ·intro h
  by_cases h0:up=Nm.zero
  ·exact .inl h0
  ·obtain ⟨u,hu,e,h2⟩:=aqD h h0
   refine .inr ⟨u,hu,e, ?_⟩
   by_cases h3:bL u=w
   ·exact .inl h3
   ·refine .inr ?_
    cases h4:jL (bL u) w
    ·exact absurd ⟨h3,h4⟩ h2
    ·rfl
 ·intro h
  unfold eS
  by_cases h0:up=Nm.zero
  ·rw [zp h0]
  ·rw [zn h0]
   obtain ⟨u,hu,e,h2⟩:=h.resolve_left h0
   cases hI:c.parts.findIdx? (λp=>decide (aM p=up)) with
   |none=>
    have:=List.findIdx?_eq_none_iff.1 hI u hu
    simp [e] at this
   |some i=>
    obtain ⟨hk,hk1,_⟩:=List.findIdx?_eq_some_iff_getElem.1 hI
    simp only [zgg hk]
    have e2:c.parts[i]=u:=hn _ (zgm hk) _ hu ((of_decide_eq_true hk1).trans e.symm)
    rw [e2,zn]
    rintro ⟨h3,h4⟩
    rcases h2 with h2|h2
    ·exact h3 h2
    ·rw [h4] at h2;cases h2
theorem axA {l m:List Pt} (h:l.Perm m) (w:Sp) (up:Nm):dK l w up↔dK m w up:=
 or_congr Iff.rfl ⟨λ⟨u,hu,q⟩=>⟨u,h.subset hu,q⟩,λ⟨u,hu,q⟩=>⟨u,h.symm.subset hu,q⟩⟩
theorem aAy {l m:List Pt} {w:Sp} {up:Nm} (h:∀x∈m,aM x≠up):dK (l++m) w up↔dK l w up:=
 or_congr Iff.rfl ⟨λ⟨u,hu,q⟩=>⟨u,(zma.1 hu).resolve_right λhm=>h u hm q.1,q⟩,λ⟨u,hu,q⟩=>⟨u,List.mem_append_left _ hu,q⟩⟩
theorem avG {l m:List Pt} {w:Sp} {up:Nm} (h:dK l w up):dK (l++m) w up:=
 h.imp id λ⟨u,hu,q⟩=>⟨u,List.mem_append_left _ hu,q⟩
theorem anU {l:List Pt} {w:Sp} {up k:Nm}:dK (dX k l) w up↔dK l w up:=by
 refine or_congr Iff.rfl ⟨λ⟨u',hu,q⟩=> ?_,λ⟨u,hu,q⟩=>⟨gE k u,List.mem_map_of_mem hu,by rw [(fH k).name,(fH k).stamp];exact q⟩⟩
 obtain ⟨u,hv,rfl⟩:=List.mem_map.1 hu
 exact ⟨u,hv,by rw [<-(fH k).name u,<-(fH k).stamp u];exact q⟩
theorem aFb {p:Pt} (h:bS p=true):mayN (aM p)=true:=by
 simp only [bS,zba] at h;exact h.1.2
theorem aEC {w:Sp} (hw:wOK w) {n:Int} (h0:0<=n) (h1:n<=1999):mayN ⟨eZ w,n⟩=true:=by
 have:=hw.2
 show mayN ⟨⟨w.dev,w.seq⟩,n⟩=true
 simp only [mayN,withinB,zba,zde] at this⊢
 exact ⟨this.1,h0,h1⟩
theorem anO {l:List Pt} {w:Sp} {n:Int} {up:Nm} (b:UInt8) (hW:Whole l) (hw:wOK w) (h0:0<=n) (h1:n<=1999) (ha:∀p∈l,p.dot=eZ w->p.time=w.time/\p.at_<n)
  (hup:up=Nm.zero\/∃u∈l,aM u=up/\(bL u=w\/jL (bL u) w=true)):
  Whole (l++[⟨⟨1,(b.toNat:Int),e0⟩,⟨w.dev,w.seq⟩,n,w.time,up.dot,up.at_,false⟩]):=by
 have hb:=b.toNat_lt
 obtain ⟨x,hx⟩:∃x:Pt,(⟨⟨1,(b.toNat:Int),e0⟩,⟨w.dev,w.seq⟩,n,w.time,up.dot,up.at_,false⟩:Pt)=x:=⟨_,rfl⟩
 have hxn:aM x=⟨eZ w,n⟩:=by rw [<-hx];rfl
 have hxp:bG x=up:=by rw [<-hx];rfl
 have hxd:x.dot=eZ w:=by rw [<-hx];rfl
 have hxt:x.time=w.time:=by rw [<-hx]
 have hxs:bL x=w:=by rw [<-hx];rfl
 have hxa:x.at_=n:=by rw [<-hx]
 have hxv:x.val=⟨1,(b.toNat:Int),e0⟩:=by rw [<-hx]
 rw [hx]
 have hmu:up=Nm.zero\/mayN up=true:=hup.imp id λ⟨u,hu,e,_⟩=>by rw [<-e];exact aFb (hW.formed u hu)
 have hfx:bS x=true:=by
  unfold bS
  rw [hxv,hxt,hxn,hxp,aEC hw h0 h1,hw.1]
  have e1:withinB (b.toNat:Int) 0 255=true:=by
   unfold withinB;rw [zba,zde,zde];omega
  rcases hmu with e|e
  ·simp [e1,e]
  ·simp [e1,e]
 refine ⟨⟨λp hp=> ?_, ?_,λp hp q hq e=> ?_⟩,λp hp=> ?_⟩
 ·rcases zma.1 hp with hp|hp
  ·exact hW.formed p hp
  ·rw [zms.1 hp];exact hfx
 ·rw [List.map_append,List.nodup_append]
  refine ⟨hW.nodup,by simp,λm hm m' hm' e=> ?_⟩
  obtain ⟨p,hp,rfl⟩:=List.mem_map.1 hm
  rw [List.map_singleton,zms] at hm'
  rw [hm',hxn] at e
  injection e with e1 e2
  have:=(ha p hp e1).2
  omega
 ·rcases zma.1 hp with hp|hp<;>rcases zma.1 hq with hq|hq
  ·exact hW.times p hp q hq e
  ·rw [zms.1 hq] at e⊢;rw [hxt];exact (ha p hp (e.trans hxd)).1
  ·rw [zms.1 hp] at e⊢;rw [hxt];exact (ha q hq (e.symm.trans hxd)).1.symm
  ·rw [zms.1 hp,zms.1 hq]
 ·rcases zma.1 hp with hp|hp
  ·rcases hW.up p hp with e|⟨u,hu,e⟩
   ·exact .inl e
   ·exact .inr ⟨u,List.mem_append_left _ hu,e⟩
  ·rw [zms.1 hp,hxp]
   rcases hup with e|⟨u,hu,e,h3⟩
   ·exact .inl e
   ·refine .inr ⟨u,List.mem_append_left _ hu,e, ?_⟩
    unfold eM
    rw [hxs,hxa]
    rcases h3 with h3|h3
    ·have hd:u.dot=eZ w:=by rw [<-h3];rfl
     have:=(ha u hu hd).2
     simp [h3,this]
    ·rw [h3];rfl
theorem zP {w:Sp}:∀(bs:List UInt8) {l:List Pt} {n:Int} {up:Nm},Whole l->wOK w->0<=n->n+bs.length<=2000->(∀p∈l,p.dot=eZ w->p.time=w.time/\p.at_<n)->dK l w up->Whole (l++tyF w bs n up)
 |[],l,n,up,hW,_,_,_,_,_=>by rw [tyF,List.append_nil];exact hW
 |b::r,l,n,up,hW,hw,h0,h1,ha,hup=>by
  rw [zlc] at h1
  have h2:=anO b hW hw h0 (by omega) ha hup
  have:=zP r (n:=n+1) (up:=⟨⟨w.dev,w.seq⟩,n⟩) h2 hw (by omega) (by omega) (λp hp e=>by
   rcases zma.1 hp with hp|hp
   ·have:=ha p hp e;exact ⟨this.1,by omega⟩
   ·rw [zms.1 hp];exact ⟨rfl,by simp only;omega⟩) (.inr ⟨_,List.mem_append_right _ (zms.2 rfl),rfl, .inl rfl⟩)
  rw [List.append_assoc] at this
  exact this
def nR (c:Cl) (w:Sp) (up:Nm):List ByteArray->Cl
 |[]=>c
 |s::r=>nR (if (typeP c s w up).2=0 then (typeP c s w up).1 else c) w up r
def nN (w:Sp) (up:Nm):Int->List ByteArray->List Pt
 |_,[]=>[]
 |n,s::r=>if 200<s.size\/2000<n+s.size then nN w up n r else tyF w s.data.toList n up++nN w up (n+s.size) r
def wS :List ByteArray->Nat
 |[]=>0
 |s::r=>s.size+wS r
open Classical in
noncomputable def deltaL (l:List Pt) (w:Sp) (up:Nm) (ss:List ByteArray):List Pt:=if wrL l w<0\/¬dK l w up then [] else nN w up (wrL l w) ss
theorem ahY {l:List Pt} (hW:Whole l):∀p∈l,0<=p.at_:=λp hp=>(mL (hW.formed p hp)).1
theorem pY (s:ByteArray):s.data.toList.length=s.size:=rfl
theorem Is.type {c:Cl} {l:List Pt} (h:Is c l) (s:ByteArray) (w:Sp) (up:Nm) (hl:l.length+s.size<=2000):
  ((wrL l w<0\/¬dK l w up\/200<s.size\/2000<wrL l w+s.size)/\(typeP c s w up).2≠0)\/
  (0<=wrL l w/\dK l w up/\¬(200<s.size\/2000<wrL l w+s.size))/\(typeP c s w up).2=0/\Is (typeP c s w up).1 (l++tyF w s.data.toList (wrL l w) up):=by
 have hp:=h.perm
 have hWc:Whole c.parts:=h.whole.perm' hp.symm
 have e1:dI c w=wrL l w:=by rw [amX,ayV hp]
 have e2:eS c w up=0↔dK l w up:=by rw [anT hWc.named,axA hp]
 have e3:c.parts.length=l.length:=hp.length_eq
 unfold typeP
 rw [h.right,e1,e3]
 simp only [ne_eq,not_true_eq_false,if_false]
 by_cases h1:wrL l w<0
 ·left;rw [zp h1];exact ⟨.inl h1,by simp⟩
 ·rw [zn h1]
  by_cases h2:200<s.size\/2000<l.length+s.size\/2000<wrL l w+s.size
  ·left;rw [zp h2];exact ⟨by rcases h2 with q|q|q;exact .inr (.inr (.inl q));omega;exact .inr (.inr (.inr q)),by simp⟩
  ·rw [zn h2]
   by_cases h3:eS c w up=0
   ·right
    rw [zn (by simp [h3])]
    have hb:=e2.1 h3
    refine ⟨⟨by omega,hb,λq=>h2 (q.imp id .inr)⟩,rfl,h.kind,h.val, ?_, ?_, ?_⟩
    ·have hw:wOK w:=by
      apply Classical.byContradiction
      intro q;unfold wrL at h1;rw [zn q] at h1;omega
     have e4:wrL l w=wrF (eZ w) w.time l 0:=by unfold wrL;rw [zp hw]
     refine zP _ h.whole hw (by omega) (by rw [pY];omega) ?_ hb
     rw [e4] at h1⊢
     exact afM (ahY h.whole) (Int.le_refl 0) (by omega)
    ·rw [zla,qW,pY];omega
    ·exact pG (hp.append_right _)
   ·left
    rw [zp h3]
    exact ⟨.inr (.inl λq=>h3 (e2.2 q)),h3⟩
theorem aEM {l:List Pt} (hW:Whole l) {w:Sp} (h0:0<=wrL l w) (bs:List UInt8) (up:Nm):wrL (l++tyF w bs (wrL l w) up) w=wrL l w+bs.length:=by
 have hw:wOK w:=by
  apply Classical.byContradiction
  intro q;unfold wrL at h0;rw [zn q] at h0;omega
 have e:wrL l w=wrF (eZ w) w.time l 0:=by unfold wrL;rw [zp hw]
 have e2:∀m,wrL m w=wrF (eZ w) w.time m 0:=λm=>by unfold wrL;rw [zp hw]
 rw [e2 (l++_),e]
 rw [e] at h0
 rw [aeQ (Int.le_refl 0) (ahY hW) h0,ayU]
theorem Is.typed {w:Sp} {up:Nm}:∀(ss:List ByteArray) {c:Cl} {l:List Pt},Is c l->l.length+wS ss<=2000->Is (nR c w up ss) (l++deltaL l w up ss)
 |[],c,l,h,_=>by
  have:deltaL l w up []=[]:=by unfold deltaL;split<;>rfl
  rw [this,List.append_nil];exact h
 |s::r,c,l,h,hl=>by
  rw [wS] at hl
  rw [nR]
  rcases h.type s w up (by omega) with ⟨h1,h2⟩|⟨⟨h0,hb,hn⟩,h2,h3⟩
  ·rw [zn h2]
   have:=Is.typed r (w:=w) (up:=up) h (by omega)
   have e:deltaL l w up (s::r)=deltaL l w up r:=by
    unfold deltaL
    split
    ·rfl
    ·rename_i q
     rw [nN,zp]
     rcases h1 with h1|h1|h1
     ·exact absurd (.inl h1) q
     ·exact absurd (.inr h1) q
     ·exact h1
   rw [e];exact this
  ·rw [zp h2]
   have hlen:(l++tyF w s.data.toList (wrL l w) up).length=l.length+s.size:=by rw [zla,qW,pY]
   have:=Is.typed r (w:=w) (up:=up) h3 (by omega)
   have hw2:=aEM h.whole h0 s.data.toList up
   rw [pY] at hw2
   have e:deltaL l w up (s::r)=tyF w s.data.toList (wrL l w) up++deltaL (l++tyF w s.data.toList (wrL l w) up) w up r:=by
    unfold deltaL
    rw [zn (by rintro (q|q);omega;exact q hb),zn (by rw [hw2];rintro (q|q);omega;exact q (avG hb)),nN,zn hn,hw2]
   rw [e,<-List.append_assoc];exact this
theorem sJ {w:Sp} {up:Nm}:∀{ss:List ByteArray} {n:Int},∀x∈nN w up n ss,x.dot=eZ w
 |[],_,x,h=>by cases h
 |s::r,n,x,h=>by
  rw [nN] at h
  split at h
  ·exact sJ x h
  ·rcases zma.1 h with h|h
   ·exact aqY x h
   ·exact sJ x h
theorem zS {l:List Pt} {w:Sp} {up:Nm} {ss:List ByteArray}:∀x∈deltaL l w up ss,x.dot=eZ w:=by
 intro x h
 unfold deltaL at h
 split at h
 ·cases h
 ·exact sJ x h
theorem sM {w:Sp} {up:Nm}:∀{ss:List ByteArray} {n:Int},(nN w up n ss).length<=wS ss
 |[],_=>Nat.le_refl _
 |s::r,n=>by
  rw [nN,wS]
  split
  ·exact Nat.le_trans sM (by omega)
  ·rw [zla,qW,pY];have:=sM (w:=w) (up:=up) (ss:=r) (n:=n+s.size);omega
theorem aaR {l:List Pt} {w:Sp} {up:Nm} {ss:List ByteArray}:(deltaL l w up ss).length<=wS ss:=by
 unfold deltaL
 split
 ·exact Nat.zero_le _
 ·exact sM
theorem tZ {l A:List Pt} {w v:Sp} {up k:Nm} {ss:List ByteArray} (hA:∀x∈A,x.dot=eZ v) (hne:eZ v≠eZ w) (hup:up.dot≠eZ v):deltaL (dX k (l++A)) w up ss=deltaL l w up ss:=by
 have e1:wrL (dX k (l++A)) w=wrL l w:=by
  unfold wrL
  rw [iD,adB (fH k),sT λp hp=>by rw [hA p hp];exact hne]
 have e2:dK (dX k (l++A)) w up↔dK l w up:=by
  rw [anU,aAy λx hx e=>hup (by rw [<-e];exact hA x hx)]
 unfold deltaL
 rw [e1]
 by_cases hb:wrL l w<0\/¬dK l w up
 ·rw [zp hb,zp (by rw [e2];exact hb)]
 ·rw [zn hb,zn (by rw [e2];exact hb)]
theorem wV {A:List Pt} {v:Sp} {k:Nm} (hA:∀x∈A,x.dot=eZ v) (hk:k.dot≠eZ v):dX k A=A:=
 ajO λx hx e=>hk (by rw [<-e];exact hA x hx)
theorem anX (k:Nm) (l m:List Pt):dX k (l++m)=dX k l++dX k m:=List.map_append
theorem meets {c:Cl} (hr:rightP c=0) {a b:Sp} {p q:Nm} {s t:List ByteArray} (hab:eZ a≠eZ b) (hp:p.dot≠eZ b) (hq:q.dot≠eZ a) (hl:c.parts.length+wS s+wS t<=2000):
  eraseP (nR (eraseP (nR c a p s) p) b q t) q=eraseP (nR (eraseP (nR c b q t) q) a p s) p/\rightP (eraseP (nR (eraseP (nR c a p s) p) b q t) q)=0:=by
 have h:=Is.of hr
 have lA:=aaR (l:=c.parts) (w:=a) (up:=p) (ss:=s)
 have lB:=aaR (l:=c.parts) (w:=b) (up:=q) (ss:=t)
 have dA:=zS (l:=c.parts) (w:=a) (up:=p) (ss:=s)
 have dB:=zS (l:=c.parts) (w:=b) (up:=q) (ss:=t)
 have a1:=(h.typed s (w:=a) (up:=p) (by omega)).erase p
 have b1:=(h.typed t (w:=b) (up:=q) (by omega)).erase q
 have eB:=tZ (l:=c.parts) (w:=b) (up:=q) (ss:=t) (k:=p) dA hab hq
 have eA:=tZ (l:=c.parts) (w:=a) (up:=p) (ss:=s) (k:=q) dB (Ne.symm hab) hp
 have a2:=(a1.typed t (w:=b) (up:=q) (by rw [iD,zql,zla];omega)).erase q
 have b2:=(b1.typed s (w:=a) (up:=p) (by rw [iD,zql,zla];omega)).erase p
 rw [eB] at a2
 rw [eA] at b2
 have x1:=wV dA hq
 have x2:=wV dB hp
 generalize deltaL c.parts a p s=A at*
 generalize deltaL c.parts b q t=B at*
 refine ⟨a2.eq b2 ?_,a2.right⟩
 simp only [anX]
 rw [pL q p c.parts,pL q p A,x1,pL p q B,x2]
 simp only [List.append_assoc]
 exact List.Perm.append_left _ List.perm_append_comm
end
end Go.Proofs.YtloecjjehapblaaGreatDoor.T
namespace Go.Proofs.YtloecjjehapblaaGreatDoor
open Go Go.Abs
set_option maxRecDepth 10000
set_option maxHeartbeats 4000000
theorem qM {α:Type} (f:α->Bool) (a:α) (l:List α):abW f (a::l)=if f a=true then 0 else abW f l+1:=by
 unfold abW
 rw [List.findIdx?_cons]
 by_cases h:f a=true
 ·rw [zp h,zp h];rfl
 ·rw [zn h,zn (by simpa using h)]
  cases List.findIdx? f l<;>simp
theorem agW {α:Type} {l:List α} {k:Nat} {x y:α}:y∈l.take k++[x]++l.drop k↔y=x\/y∈l:=by
 rw [zma,zma,zms]
 have h:y∈l↔y∈l.take k\/y∈l.drop k:=by rw [<-zma,List.take_append_drop]
 rw [h]
 constructor
 ·rintro ((q|q)|q)
  ·exact .inr (.inl q)
  ·exact .inl q
  ·exact .inr (.inr q)
 ·rintro (q|q|q)
  ·exact .inl (.inr q)
  ·exact .inl (.inl q)
  ·exact .inr q
theorem anC {α:Type} {r:α->α->Prop} (tr:∀a b c,r a b->r b c->r a c) {x:α} {f:α->Bool}:∀{l:List α},l.Pairwise r->(∀p∈l,f p=false->r p x)->(∀p∈l,f p=true->r x p)->(l.take (abW f l)++[x]++l.drop (abW f l)).Pairwise r
 |[],_,_,_=>by simp
 |a::l,h,h1,h2=>by
  obtain ⟨ha,hl⟩:=List.pairwise_cons.1 h
  rw [qM]
  by_cases hf:f a=true
  ·rw [zp hf]
   have hxa:=h2 a (by simp) hf
   show (x::a::l).Pairwise r
   refine List.pairwise_cons.2 ⟨λy hy=> ?_,h⟩
   rcases zmc.1 hy with rfl|hy
   ·exact hxa
   ·exact tr _ _ _ hxa (ha y hy)
  ·rw [zn hf,List.take_succ_cons,List.drop_succ_cons,List.cons_append,List.cons_append]
   refine List.pairwise_cons.2 ⟨λy hy=> ?_,anC tr hl (λp hp=>h1 p (List.mem_cons_of_mem _ hp)) (λp hp=>h2 p (List.mem_cons_of_mem _ hp))⟩
   rcases agW.1 hy with rfl|hy
   ·exact h1 a (by simp) (by simpa using hf)
   ·exact ha y hy
theorem adP {l:List Pt} {k:Nat} {x y:Pt}:y∈dP l k [x]↔y=x\/y∈l:=agW
theorem aqH {ok:Pt->Bool} {bh:Pt->Pt->Bool} (tr:∀{a b c},bh b a=true->bh c b=true->bh c a=true) {l:List Pt}:xU ok bh l=true↔(∀p∈l,ok p=true)/\l.Pairwise λa b=>bh b a=true:=by
 constructor
 ·intro h
  have hj:∀j (hj:j<l.length),ok l[j]=true/\(j=0\/bh l[j] (l[j-1]'(by omega))=true):=λj hj=>by
   unfold xU at h
   rw [zal] at h
   have:=h j (List.mem_range.2 hj)
   rw [getElem!_pos l j hj,getElem!_pos l (j-1) (by omega),zba,Bool.or_eq_true,zde] at this
   exact this
  refine ⟨λp hp=>by obtain ⟨j,hj',rfl⟩:=zgo hp;exact (hj j hj').1,List.pairwise_iff_getElem.2 λi j hi hj' hij=> ?_⟩
  have key:∀d,∀h:i+d+1<l.length,bh l[i+d+1] l[i]=true:=λd=>by
   induction d with
   |zero=>intro h;exact (hj (i+1) h).2.resolve_left (by omega)
   |succ d ih=>
    intro h
    have h1:=ih (by omega)
    have h2:=(hj (i+(d+1)+1) h).2.resolve_left (by omega)
    exact tr h1 h2
  have:=key (j-i-1) (by omega)
  simp only [show i+(j-i-1)+1=j by omega] at this
  exact this
 ·rintro ⟨h1,h2⟩
  refine afY λj hj=> ?_
  rw [h1 _ (zgm hj),Bool.true_and]
  rcases Nat.eq_zero_or_pos j with rfl|h0
  ·rfl
  ·rw [List.pairwise_iff_getElem.1 h2 (j-1) j (by omega) hj (by omega),Bool.or_true]
theorem sI {c:Cl}:lT c=true↔(c.kind=1/\c.val=Vl.zero)/\(∀p∈c.parts,gU p=true)/\c.parts.Pairwise λa b=>bH b.dot a.dot=true:=by
 unfold lT
 rw [zba,zde,aqH (bh:=λp q=>bH p.dot q.dot) λh1 h2=>pR h1 h2]
theorem afZ {p q:Pt}:dK p q=true↔p.val.n>q.val.n\/p.val.n=q.val.n/\bH p.dot q.dot=true:=by
 unfold dK
 rw [Bool.or_eq_true,zba,zde,zde]
theorem axN {a b c:Pt} (h1:dK b a=true) (h2:dK c b=true):dK c a=true:=by
 rw [afZ] at*
 rcases h1 with h1|⟨e1,h1⟩<;>rcases h2 with h2|⟨e2,h2⟩
 ·exact .inl (by omega)
 ·exact .inl (by omega)
 ·exact .inl (by omega)
 ·exact .inr ⟨by omega,pR h1 h2⟩
theorem aCI {a b:Pt} (h:dK a b=false) (hne:¬(a.val.n=b.val.n/\a.dot=b.dot)):dK b a=true:=by
 rw [<-Bool.not_eq_true,afZ] at h
 rw [afZ]
 rcases Int.lt_trichotomy a.val.n b.val.n with q|q|q
 ·exact .inl q
 ·refine .inr ⟨q.symm, ?_⟩
  refine wK ?_ λe=>hne ⟨q,e⟩
  rw [<-Bool.not_eq_true]
  exact λw=>h (.inr ⟨q,w⟩)
 ·exact absurd (.inl q) h
theorem jW {c:Cl}:jI c=true↔(c.kind=3/\c.val=Vl.zero)/\(∀p∈c.parts,jG p=true)/\c.parts.Pairwise λa b=>dK b a=true:=by
 unfold jI
 rw [zba,zde,aqH (bh:=dK) λh1 h2=>axN h1 h2]
theorem avO {v:Vl} {d:Dt} (hv:bB v=true) (hd:fK d=true):gU (ptN v d)=true:=by
 unfold gU
 rw [show (ptN v d).val=v from rfl,show (ptN v d).dot=d from rfl,hv,hd]
 have:lN (ptN v d):=⟨rfl,rfl,rfl,rfl,rfl⟩
 simp only [decide_eq_true this];rfl
theorem awP {n:Int} {d:Dt} (hv:bB (nV n)=true) (hd:fK d=true):jG (ptN (nV n) d)=true:=by
 unfold jG
 rw [show (ptN (nV n) d).val=nV n from rfl,show (ptN (nV n) d).dot=d from rfl,hv,hd]
 have:lN (ptN (nV n) d):=⟨rfl,rfl,rfl,rfl,rfl⟩
 simp only [decide_eq_true this];rfl
theorem uJ {c:Cl} {v:Vl} {d:Dt} {kn:List Int} (h:lT c=true) (hv:bB v=true) (hd:fK d=true):lT (gW c v d kn)=true:=by
 obtain ⟨h0,h1,h2⟩:=sI.1 h
 refine sI.2 ⟨h0,λp hp=> ?_,anC (r:=λa b:Pt=>bH b.dot a.dot=true) (λ_ _ _ h1 h2=>pR h1 h2) (h2.filter _) (λp hp hf=> ?_) λp hp hf=> ?_⟩
 ·rcases adP.1 hp with rfl|hp
  ·exact avO hv hd
  ·exact h1 p ((List.mem_filter.1 hp).1)
 ·have hk:=(List.mem_filter.1 hp).2
  unfold rG at hk
  rw [zba,zde] at hk
  exact wK hf hk.1
 ·exact hf
theorem zL {c:Cl} {n:Int} {d:Dt} (h:jI c=true) (hv:bB (nV n)=true) (hd:fK d=true):jI (nD c n d)=true:=by
 unfold nD
 split
 ·exact h
 ·rename_i hs
  obtain ⟨h0,h1,h2⟩:=jW.1 h
  refine jW.2 ⟨h0,λp hp=> ?_,anC (r:=λa b:Pt=>dK b a=true) (λ_ _ _ h1 h2=>axN h1 h2) h2 (λp hp hf=>aCI hf ?_) λp hp hf=>hf⟩
  ·rcases adP.1 hp with rfl|hp
   ·exact awP hv hd
   ·exact h1 p hp
  ·rintro ⟨q1,q2⟩
   apply hs
   rw [List.any_eq_true]
   refine ⟨p,hp, ?_⟩
   unfold rF
   rw [decide_eq_true (show p.val.n=n from q1),decide_eq_true (show p.dot=d from q2)];rfl
theorem ahE {c:Cl} {n:Int} {d:Dt} {kn:List Int} (h:jI c=true):jI (rL c n d kn)=true:=by
 obtain ⟨h0,h1,h2⟩:=jW.1 h
 exact jW.2 ⟨h0,λp hp=>h1 p ((List.mem_filter.1 hp).1),h2.filter _⟩
theorem aaT {c:Cl} {n:Int} (h:(sX c n).2=0):(sX c n).1.kind=2/\cJ (sX c n).1=0/\(sX c n).1.parts=[]:=by
 unfold sX at*
 split at h
 ·rename_i q;exact absurd h q
 ·rename_i q;rw [zn q]
  split at h
  ·rename_i q2;exact absurd h q2
  ·rename_i q2;rw [zn q2]
   split at h
   ·rename_i q3;exact absurd h q3
   ·rename_i q3;rw [zn q3]
    exact ⟨rfl,zdn q3,rfl⟩
theorem yR {c:Cl} {s:ByteArray} {w:T.Sp} {up:T.Nm} (h:T.rightP c=0) (h0:(T.typeP c s w up).2=0):T.rightP (T.typeP c s w up).1=0:=by
 have hl:c.parts.length+s.size<=2000:=by
  apply Classical.byContradiction
  intro q
  unfold T.typeP at h0
  rw [zn (by simp [h])] at h0
  split at h0
  ·simp at h0
  ·rw [zp (.inr (.inl (by omega)))] at h0
   simp at h0
 rcases (T.Is.of h).type s w up hl with ⟨_,q⟩|⟨_,_,q⟩
 ·exact absurd h0 q
 ·exact q.right
theorem jF {c:Cl} (h:T.rightP c=0):c.kind=4:=by
 unfold T.rightP at h
 split at h
 ·cases h
 ·rename_i q;exact zdn q
theorem cH {c:Cl}:jV T.rightP c=true↔(c.kind=0/\bB c.val=true/\c.parts=[])\/(c.kind=1/\lT c=true)\/(c.kind=2/\cJ c=0)\/(c.kind=3/\jI c=true)\/(c.kind=4/\T.rightP c=0):=by
 unfold jV
 by_cases h0:c.kind=0
 ·rw [zp h0,zba,zde]
  constructor
  ·rintro ⟨a,b⟩;exact .inl ⟨h0,a,List.eq_nil_of_length_eq_zero b⟩
  ·rintro (⟨_,a,b⟩|⟨k,_⟩|⟨k,_⟩|⟨k,_⟩|⟨k,_⟩)
   ·exact ⟨a,by rw [b];rfl⟩
   all_goals omega
 rw [zn h0]
 by_cases h1:c.kind=1
 ·rw [zp h1]
  constructor
  ·exact λa=> .inr (.inl ⟨h1,a⟩)
  ·rintro (⟨k,_⟩|⟨_,a⟩|⟨k,_⟩|⟨k,_⟩|⟨k,_⟩)
   ·omega
   ·exact a
   all_goals omega
 rw [zn h1]
 by_cases h2:c.kind=2
 ·rw [zp h2,zde]
  constructor
  ·exact λa=> .inr (.inr (.inl ⟨h2,a⟩))
  ·rintro (⟨k,_⟩|⟨k,_⟩|⟨_,a⟩|⟨k,_⟩|⟨k,_⟩)
   ·omega
   ·omega
   ·exact a
   all_goals omega
 rw [zn h2]
 by_cases h3:c.kind=3
 ·rw [zp h3]
  constructor
  ·exact λa=> .inr (.inr (.inr (.inl ⟨h3,a⟩)))
  ·rintro (⟨k,_⟩|⟨k,_⟩|⟨k,_⟩|⟨_,a⟩|⟨k,_⟩)
   ·omega
   ·omega
   ·omega
   ·exact a
   ·omega
 rw [zn h3]
 by_cases h4:c.kind=4
 ·rw [zp h4,zde]
  constructor
  ·exact λa=> .inr (.inr (.inr (.inr ⟨h4,a⟩)))
  ·rintro (⟨k,_⟩|⟨k,_⟩|⟨k,_⟩|⟨k,_⟩|⟨_,a⟩)
   ·omega
   ·omega
   ·omega
   ·omega
   ·exact a
 ·rw [zn h4]
  simp [h0,h1,h2,h3,h4]
theorem alD {v:Vl} (h:bB v=true) (hk:v.kind=1):bB (nV v.n)=true:=by
 unfold bB at*
 rw [zn (by omega),zp hk] at h
 rw [zn (by simp [nV]),zp (show (nV v.n).kind=1 from rfl)]
 simp only [zba,zde] at*
 exact ⟨⟨rfl,h.1.2⟩,h.2⟩
theorem pU {w:Wr} (h:rV w=true):fK w.dot=true:=by
 unfold rV T.withinB at h
 unfold fK Wr.dot
 simp only [zba,zde] at*
 omega
theorem aDz {w:Wr} {c:Cl} {o:Ot} {co:Co} (hw:rV w=true) (hc:jV T.rightP c=true) (hf:abB o.kind c.kind=true) (hv:oP co o=0) (h0:(eV w c o).2=0):jV T.rightP (eV w c o).1=true/\(eV w c o).1.kind=c.kind:=by
 have hd:=pU hw
 have hvr:bB o.val=true:=by
  unfold oP at hv
  split at hv
  ·cases hv
  ·rename_i q
   cases e:bB o.val with
   |true=>rfl
   |false=>exact absurd (.inr e) q
 have hn:o.kind≠2->o.kind≠6->o.kind≠7->bB (nV o.val.n)=true:=λa b e=>by
  apply alD hvr
  unfold oP at hv
  split at hv
  ·cases hv
  ·split at hv
   ·rename_i q;exact absurd q.1 a
   split at hv
   ·cases hv
   split at hv
   ·cases hv
   ·rename_i q;exact Classical.byContradiction λz=>q ⟨a,b,z⟩
 unfold eV at*
 unfold abB at hf
 by_cases k2:o.kind=2
 ·rw [zp k2] at hf h0⊢
  rw [zde] at hf
  by_cases c0:c.kind=0
  ·rw [zp c0]
   exact ⟨cH.2 (.inl ⟨rfl,hvr,rfl⟩),c0.symm⟩
  ·rw [zn c0]
   have c1:c.kind=1:=hf.resolve_left c0
   rcases cH.1 hc with q|q|q|q|q
   ·exact absurd q.1 c0
   ·exact ⟨cH.2 (.inr (.inl ⟨c1,uJ q.2 hvr hd⟩)),rfl⟩
   all_goals omega
 rw [zn k2] at hf h0⊢
 by_cases k3:o.kind=3
 ·rw [zp k3] at hf h0⊢
  rw [zde] at hf
  obtain ⟨a1,a2,a3⟩:=aaT h0
  exact ⟨cH.2 (.inr (.inr (.inl ⟨a1,a2⟩))),by rw [a1,hf]⟩
 rw [zn k3] at hf h0⊢
 by_cases k4:o.kind=4
 ·rw [zp (.inl k4),zde] at hf
  rw [zp k4] at h0⊢
  rcases cH.1 hc with q|q|q|q|q
  ·omega
  ·omega
  ·omega
  ·have hk:(nD c o.val.n w.dot).kind=c.kind:=by unfold nD;split<;>rfl
   exact ⟨cH.2 (.inr (.inr (.inr (.inl ⟨by rw [hk,hf],zL q.2 (hn k2 (by omega) (by omega)) hd⟩)))),hk⟩
  ·omega
 rw [zn k4] at h0⊢
 by_cases k5:o.kind=5
 ·rw [zp (.inr k5),zde] at hf
  rw [zp k5] at h0⊢
  rcases cH.1 hc with q|q|q|q|q
  ·omega
  ·omega
  ·omega
  ·exact ⟨cH.2 (.inr (.inr (.inr (.inl ⟨hf,ahE q.2⟩)))),rfl⟩
  ·omega
 rw [zn (by omega)] at hf
 rw [zn k5] at h0⊢
 have hf4:(o.kind=6\/o.kind=7)/\c.kind=4:=by
  split at hf
  ·rename_i q;exact ⟨q,by simpa using hf⟩
  ·cases hf
 have hr:T.rightP c=0:=by
  rcases cH.1 hc with q|q|q|q|q
  ·omega
  ·omega
  ·omega
  ·omega
  ·exact q.2
 by_cases k6:o.kind=6
 ·rw [zp k6] at h0⊢
  have:=yR hr h0
  exact ⟨cH.2 (.inr (.inr (.inr (.inr ⟨jF this,this⟩)))),by rw [jF this,hf4.2]⟩
 ·rw [zn k6]
  have:=T.right_erase ⟨o.after,o.at_⟩ hr
  exact ⟨cH.2 (.inr (.inr (.inr (.inr ⟨jF this,this⟩)))),rfl⟩
theorem aBf :T.rightP ⟨4,Vl.zero,[]⟩=0:=by kernel_rfl
theorem ayG {w:Wr} {c:Co} {v:Vl} (hw:rV w=true) (hk:0<=c.kind/\c.kind<=4) (hv:lC c v=0) (h0:(kG w c.kind v).2=0):jV T.rightP (kG w c.kind v).1=true/\(kG w c.kind v).1.kind=c.kind:=by
 have hd:=pU hw
 unfold lC at hv
 split at hv
 ·cases hv
 rename_i q0
 have hvr:bB v=true:=by simpa using q0
 split at hv
 ·cases hv
 rename_i q1
 split at hv
 ·cases hv
 rename_i q2
 unfold kG at*
 by_cases c0:c.kind=0
 ·rw [zp c0]
  exact ⟨cH.2 (.inl ⟨rfl,hvr,rfl⟩),c0.symm⟩
 rw [zn c0] at h0⊢
 by_cases c2:c.kind=2
 ·rw [zp c2] at h0⊢
  obtain ⟨a1,a2,a3⟩:=aaT h0
  exact ⟨cH.2 (.inr (.inr (.inl ⟨a1,a2⟩))),by rw [a1,c2]⟩
 rw [zn c2] at h0⊢
 by_cases c4:c.kind=4
 ·rw [zp c4] at h0⊢
  have:=yR aBf h0
  exact ⟨cH.2 (.inr (.inr (.inr (.inr ⟨jF this,this⟩)))),by rw [jF this,c4]⟩
 rw [zn c4] at h0⊢
 have h13:c.kind=1\/c.kind=3:=by omega
 have hM:c.kind=1->lT ⟨c.kind,Vl.zero,[]⟩=true:=λe=>sI.2 ⟨⟨e,rfl⟩,by simp,List.Pairwise.nil⟩
 have hB:c.kind=3->jI ⟨c.kind,Vl.zero,[]⟩=true:=λe=>jW.2 ⟨⟨e,rfl⟩,by simp,List.Pairwise.nil⟩
 by_cases v0:v.kind=0
 ·rw [zp v0]
  rcases h13 with e|e
  ·exact ⟨cH.2 (.inr (.inl ⟨e,hM e⟩)),rfl⟩
  ·exact ⟨cH.2 (.inr (.inr (.inr (.inl ⟨e,hB e⟩)))),rfl⟩
 rw [zn v0] at h0⊢
 by_cases c3:c.kind=3
 ·rw [zp c3]
  have hk1:v.kind=1:=by
   have:v.kind=dY c:=Classical.byContradiction λz=>q2 ⟨v0,z⟩
   rw [this];unfold dY;rw [zn (by omega),zp (.inr c3)]
  have hk:(nD ⟨c.kind,Vl.zero,[]⟩ v.n w.dot).kind=c.kind:=by unfold nD;split<;>rfl
  exact ⟨cH.2 (.inr (.inr (.inr (.inl ⟨by rw [hk,c3],zL (hB c3) (alD hvr hk1) hd⟩)))),hk⟩
 ·rw [zn c3]
  have c1:c.kind=1:=by omega
  exact ⟨cH.2 (.inr (.inl ⟨c1,uJ (hM c1) hvr hd⟩)),rfl⟩
end Go.Proofs.YtloecjjehapblaaGreatDoor
