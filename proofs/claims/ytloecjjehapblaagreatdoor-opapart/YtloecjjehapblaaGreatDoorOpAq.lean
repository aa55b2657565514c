import Derived.Test.YtloecjjehapblaaGreatDoorOpAp
import Derived.Test.YtloecjjehapblaaGreatDoorAbsK
import Derived.Test.YtloecjjehapblaaGreatDoorAbsG
import Derived.Test.YtloecjjehapblaaGreatDoorOpAm
set_option linter.unusedSimpArgs false
set_option linter.unusedVariables false
namespace Go.Proofs.YtloecjjehapblaaGreatDoor
open Go Go.Abs
attribute [local irreducible] Ev PWp
set_option maxRecDepth 10000
set_option maxHeartbeats 4000000
theorem aDv {α:Type} (f:α->Bool) (l:List α):decide (cX f l>=0)=l.any f:=by
 unfold cX
 cases h:l.findIdx? f with
 |none=>
  have:=List.findIdx?_eq_none_iff.1 h
  rw [Bool.eq_iff_iff,List.any_eq_true]
  simp only [zde]
  constructor
  ·intro q;omega
  ·rintro ⟨y,hy,q⟩
   have:=this y hy
   rw [q] at this;cases this
 |some k=>
  obtain ⟨q1,q2,_⟩:=List.findIdx?_eq_some_iff_getElem.1 h
  rw [Bool.eq_iff_iff,List.any_eq_true]
  constructor
  ·exact λ_=>⟨_,zgm q1,q2⟩
  ·intro _;simp
theorem awH (fid:FuncId) (caps:List PV) (f:Int->Bool) (l:List Int) (hl:l.length<4611686018427387904) (hf:∀p,PF Tryz.prog fid ([(.val (.int .i64 p))]++caps) (.val (.bool (f p)))):PF Tryz.prog 302 [.seq (l.map I1), .fn fid caps] (.val (.int .i64 (cX f l))):=by
 refine aG aD Tryz.func302 (by kernel_rfl) rfl rfl rfl rfl (λst=> ?_)
 (try apply wO pk;rfl);(repeat' ((show Cn _;constructor)))
 refine aK (X:={x:Nat//x<=l.length/\∀j (h:j<x) (h2:j<l.length),f l[j]=false}) (λi=>(((((St.nil 19 st).pv 0 (.seq (l.map I1))).pv 1 (.fn fid caps)).pv 7 ((PV.val (Value.int .i64 ((((l.map I1)).length:Nat)))))).pv 8 ((PV.val (Value.int .i64 ((i.1:Nat))))))) (λi=>l.length-i.1) ⟨0,by omega,by omega⟩ ?_ (λi=> ?_)
 ·((repeat refine Sub.pv ?_ rfl);exact Sub.nil _ _ _ (zsr _) rfl)
 obtain ⟨i,hi,hinv⟩:=i
 dsimp only
 (try apply wO pk;rfl);(repeat' first|show Cn _;constructor|apply wC pk;rfl;rfl|apply wE pk;rfl;rfl|refine aA rfl ?_ ?_<;>intro h<;>(try simp at h)<;>try omega|(refine aB ?_;refine ⟨_,_,_,rfl,zwr _,zsr _, ?_,rfl⟩;try first|rfl|(first|unfold cX;rw [nN ‹_› ‹_› hinv];done|unfold cX;rw [mZ ‹_› hinv]);done)|(apply aH;rfl;rfl;rfl;(intro _;apply hf<;>first|assumption|omega);rotate_left;rfl;rfl)|apply aO pk;(iterate 6 rfl);rotate_left;rfl;(intro hw;rfl);(intro hw;apply aI<;>omega);(intro _;rfl);rfl|refine ⟨⟨i+1,by omega,λj h1 h2=>by rcases zls.1 h1 with q|q;exact hinv j q h2;subst q;assumption⟩, ?_,by simp only;omega⟩;((repeat refine Sub.pv ?_ rfl);exact Sub.nil _ _ _ (zsr _) rfl)|intros;(try simp only [zql]);omega)
theorem avR (n:Int):PF Tryz.prog 227 [(.val (.int .i64 n))] (.val (.bool (!okV n))):=by
 have e:(!okV n)=(decide (n<0)||decide (n>1048576)):=by unfold okV;rw [Bool.eq_iff_iff];simp<;>omega
 rw [e]
 refine aG aD Tryz.func227 (by kernel_rfl) rfl rfl rfl rfl (λst=> ?_)
 (try apply wO pk;rfl);(repeat' first|show Cn _;constructor|(refine aB ?_;refine ⟨_,_,_,rfl,zwr _,zsr _, ?_,rfl⟩;try rfl))
theorem ahM (v:List Int) (hl:v.length<1000000000000):PF Tryz.prog 149 [.seq (v.map I1)] (.val (.bool (aAi v))):=by
 have hx:=awH 227 [] (λn=> !okV n) v (by omega) avR
 have hc:PF Tryz.prog 228 [.seq (v.map I1), .fn 227 []] (.val (.bool (v.any λn=> !okV n))):=by
  rw [<-aDv]
  generalize cX (λn=> !okV n) v=X at*
  refine aG aD Tryz.func228 (by kernel_rfl) rfl rfl rfl rfl (λst=> ?_)
  (try apply wO pk;rfl);(repeat' first|show Cn _;constructor|apply wE pk;rfl;rfl|(refine aB ?_;refine ⟨_,_,_,rfl,zwr _,zsr _, ?_,rfl⟩;try rfl)|(apply aH;rfl;rfl;rfl;(intro _;apply hx<;>first|assumption|omega);rotate_left;rfl;rfl))
 have e:aAi v=(decide ((v.length:Int)<=64)&& !(v.any λn=> !okV n)):=by
  unfold aAi
  rw [Bool.eq_iff_iff]
  simp
  omega
 rw [e]
 generalize (v.any λn=> !okV n)=A at*
 refine aG aD Tryz.func149 (by kernel_rfl) rfl rfl rfl rfl (λst=> ?_)
 (try apply wO pk;rfl);(repeat' first|show Cn _;constructor|apply wE pk;rfl;rfl|(refine aB ?_;refine ⟨_,_,_,rfl,zwr _,zsr _, ?_,rfl⟩;try first|rfl|(simp only [zql];done);done)|(apply aH;rfl;rfl;rfl;(intro _;apply hc<;>first|assumption|omega);rotate_left;rfl;rfl))
theorem azQ (v:List Int) (d:Int) (hl:v.length<1000000000000):PF Tryz.prog 368 [.seq (v.map I1),(.val (.int .i64 d))] (.val (.int .i64 (ofV v d))):=by
 unfold ofV
 by_cases h:d<1\/d>v.length
 ·rw [zp h]
  refine aG aD Tryz.func368 (by kernel_rfl) rfl rfl rfl rfl (λst=> ?_)
  (try apply wO pk;rfl);(repeat' first|show Cn _;constructor|apply wC pk;rfl;rfl|refine aA rfl ?_ ?_<;>intro h<;>(try simp at h)<;>try omega|(refine aB ?_;refine ⟨_,_,_,rfl,zwr _,zsr _, ?_,rfl⟩;try rfl))
 ·rw [zn h]
  obtain ⟨k,hk⟩:∃k:Nat,d=k+1:=⟨(d-1).toNat,by omega⟩
  have hkl:k<v.length:=by omega
  have e:(d-1).toNat=k:=by omega
  rw [e,getElem!_pos v k hkl]
  have hd1:d-1=((k:Nat):Int):=by omega
  refine aG aD Tryz.func368 (by kernel_rfl) rfl rfl rfl rfl (λst=> ?_)
  (try apply wO pk;rfl);(repeat' first|show Cn _;constructor|apply wC pk;rfl;rfl|apply wE pk;rfl;rfl|refine aA rfl ?_ ?_<;>intro h<;>(try simp at h)<;>try omega|(refine aB ?_;refine ⟨_,_,_,rfl,zwr _,zsr _, ?_,rfl⟩;try rfl)|apply aO pk;(iterate 6 rfl);rotate_left;rfl;(intro hw;exact hd1);(intro hw;apply aI<;>omega);(intro _;rfl);rfl|intros;(try simp only [zql]);omega)
theorem afD (v:List Int) (d:Dt) (hl:v.length<1000000000000):PF Tryz.prog 314 [.seq (v.map I1), .agg d.cells] (.val (.bool (amX v d))):=by
 have h:=azQ v d.dev hl
 unfold amX
 generalize ofV v d.dev=N at*
 refine aG aD Tryz.func314 (by kernel_rfl) rfl rfl rfl rfl (λst=> ?_)
 (try apply wO pk;rfl);(repeat' first|show Cn _;constructor|apply wE pk;rfl;rfl|apply wD pk [] [];kernel_rfl;rfl;rfl|(refine aB ?_;refine ⟨_,_,_,rfl,zwr _,zsr _, ?_,rfl⟩;try rfl)|(apply aH;rfl;rfl;rfl;(intro _;apply h<;>first|assumption|omega);rotate_left;rfl;rfl))
theorem wkC (n:Int):Wk (.agg [(PV.val (Value.int .i64 (2))),(PV.val (Value.int .i64 (1))),(PV.val (Value.int .i64 (n))), .val (.string e0), .val (.slice none 0 0)]) (.agg (oM n).cells):= .agg (.cons (zwr _) (.cons (zwr _) (.cons (zwr _) (.cons (zwr _) (.cons Wk.nil .nil)))))
def inL (n:Int):Prop:= -4398046511104<=n/\n<=4398046511104
theorem azD {l:List Int} {i:Nat} (h:i<l.length):(l.take (i+1)).sum=(l.take i).sum+l[i]:=by
 rw [List.take_succ_eq_append_getElem h,List.sum_append];simp
theorem aEC {l:List Int} (h:∀n∈l,inL n): -4398046511104*(l.length:Int)<=l.sum/\l.sum<=4398046511104*(l.length:Int):=by
 induction l with
 |nil=>simp
 |cons a l ih=>
  have h1:=h a (by simp)
  have h2:=ih λn hn=>h n (List.mem_cons_of_mem _ hn)
  unfold inL at h1
  rw [List.sum_cons,zlc]
  omega
theorem uJ (l:List Int) (hl:l.length<=10) (h:∀n∈l,inL n):PF Tryz.prog 316 [.seq (l.map I1)] (.agg (oM l.sum).cells):=by
 refine aG aD Tryz.func316 (by kernel_rfl) rfl rfl rfl rfl (λst=> ?_)
 focus ((try apply wO pk;rfl);(repeat' ((show Cn _;constructor))))
 refine aK (X:={x:Nat//x<=l.length}) (λi=>((((((St.nil 19 st).var 2 80 ([(PV.val (Value.int .i64 (0))),(PV.val (Value.int .i64 (0))),(PV.val (Value.int .i64 (0))),(PV.val (Value.string (e0))), .val (.slice none 0 0)])).pv 3 ((PV.val (Value.int .i64 ((l.take i.1).sum))))).pv 6 (.seq (l.map I1))).pv 7 ((PV.val (Value.int .i64 ((((l.map I1)).length:Nat)))))).pv 8 ((PV.val (Value.int .i64 ((i.1:Nat))))))) (λi=>l.length-i.1) ⟨0,by omega⟩ ?_ (λi=> ?_)
 ·((repeat (first|refine Sub.pv ?_ rfl|refine Sub.var ?_ rfl rfl));exact Sub.nil _ _ _ (zsr _) rfl)
 obtain ⟨i,hi⟩:=i
 dsimp only
 by_cases hend:l.length<=i
 ·rw [ztl hend]
  (try apply wO pk;rfl);(repeat' first|refine aB ?_;exact ⟨_,_,_,rfl,wkC _,zsr _,rfl,rfl⟩|show Cn _;constructor|apply wC pk;rfl;rfl|refine aA rfl ?_ ?_<;>intro h<;>(try simp at h)<;>try omega)
 have hil:i<l.length:=by omega
 have hn:=h _ (zgm hil)
 have hs:=aEC (l:=l.take i) λn hn=>h n (List.mem_of_mem_take hn)
 have hti:(l.take i).length=i:=by rw [zlt];omega
 have e:=azD hil
 rw [hti] at hs
 unfold inL at hn
 generalize (l.take i).sum=S at*
 (try apply wO pk;rfl);(repeat' first|show Cn _;constructor|apply wC pk;rfl;rfl|apply wE pk;rfl;rfl|refine aA rfl ?_ ?_<;>intro h<;>(try simp at h)<;>try omega|apply aO pk;(iterate 6 rfl);rotate_left;rfl;(intro hw;rfl);(intro hw;apply aI<;>omega);(intro _;rfl);rfl|(refine ⟨⟨i+1,by omega⟩, ?_,by simp only;omega⟩;((dsimp only;rw [e]));((repeat (first|refine Sub.pv ?_ rfl|refine Sub.var ?_ rfl rfl));exact Sub.nil _ _ _ (zsr _) rfl))|intros;(try simp only [zql]);omega)
end Go.Proofs.YtloecjjehapblaaGreatDoor
namespace Go.Proofs.YtloecjjehapblaaGreatDoor.T
open Go Go.Abs
section
set_option maxRecDepth 10000
set_option maxHeartbeats 4000000
structure Keeps (g:Pt->Pt):Prop where
 val:∀p,(g p).val=p.val
 dot:∀p,(g p).dot=p.dot
 at_:∀p,(g p).at_=p.at_
 time:∀p,(g p).time=p.time
 after:∀p,(g p).after=p.after
 afterAt:∀p,(g p).afterAt=p.afterAt
theorem Keeps.name {g:Pt->Pt} (hg:Keeps g) (p:Pt):aP (g p)=aP p:=by unfold aP;rw [hg.dot,hg.at_]
theorem Keeps.parent {g:Pt->Pt} (hg:Keeps g) (p:Pt):bH (g p)=bH p:=by unfold bH;rw [hg.after,hg.afterAt]
theorem Keeps.stamp {g:Pt->Pt} (hg:Keeps g) (p:Pt):bN (g p)=bN p:=by unfold bN;rw [hg.dot,hg.time]
theorem Keeps.formed {g:Pt->Pt} (hg:Keeps g) (p:Pt):bZ (g p)=bZ p:=by unfold bZ;rw [hg.val,hg.time,hg.name,hg.parent]
theorem Keeps.ahead {g:Pt->Pt} (hg:Keeps g) (a b:Pt):eO (g a) (g b)=eO a b:=by unfold eO;rw [hg.stamp,hg.stamp,hg.at_,hg.at_]
theorem Keeps.names {g:Pt->Pt} (hg:Keeps g) (l:List Pt):(l.map g).map aP=l.map aP:=by
 rw [List.map_map];exact List.map_congr_left λp _=>hg.name p
theorem Keeps.whole {g:Pt->Pt} (hg:Keeps g) (l:List Pt):Whole (l.map g)↔Whole l:=by
 constructor
 ·intro h
  refine ⟨⟨λp hp=> ?_, ?_,λp hp q hq e=> ?_⟩,λp hp=> ?_⟩
  ·rw [<-hg.formed];exact h.formed _ (List.mem_map_of_mem hp)
  ·rw [<-hg.names];exact h.nodup
  ·rw [<-hg.time p,<-hg.time q];exact h.times _ (List.mem_map_of_mem hp) _ (List.mem_map_of_mem hq) (by rw [hg.dot,hg.dot,e])
  ·rcases h.up _ (List.mem_map_of_mem hp) with e|⟨u',hu',e1,e2⟩
   ·left;rw [<-hg.parent];exact e
   ·obtain ⟨u,hu,rfl⟩:=List.mem_map.1 hu'
    right;exact ⟨u,hu,by rw [<-hg.name,e1,hg.parent],by rw [<-hg.ahead u p];exact e2⟩
 ·intro h
  refine ⟨⟨λp' hp'=> ?_, ?_,λp' hp' q' hq' e=> ?_⟩,λp' hp'=> ?_⟩
  ·obtain ⟨p,hp,rfl⟩:=List.mem_map.1 hp';rw [hg.formed];exact h.formed p hp
  ·rw [hg.names];exact h.nodup
  ·obtain ⟨p,hp,rfl⟩:=List.mem_map.1 hp'
   obtain ⟨q,hq,rfl⟩:=List.mem_map.1 hq'
   rw [hg.time,hg.time];exact h.times p hp q hq (by rw [hg.dot,hg.dot] at e;exact e)
  ·obtain ⟨p,hp,rfl⟩:=List.mem_map.1 hp'
   rcases h.up p hp with e|⟨u,hu,e1,e2⟩
   ·left;rw [hg.parent];exact e
   ·right;exact ⟨g u,List.mem_map_of_mem hu,by rw [hg.name,e1,hg.parent],by rw [hg.ahead];exact e2⟩
theorem Keeps.anc {g:Pt->Pt} (hg:Keeps g) {l:List Pt} {p:Pt} {s:List Pt} (h:Anc l p s):Anc (l.map g) (g p) (s.map g):=by
 induction h with
 |root hp h0=>exact .root (List.mem_map_of_mem hp) (by rw [hg.parent];exact h0)
 |step hp hu e h0 _ ih=>rw [List.map_append];exact .step (List.mem_map_of_mem hp) (List.mem_map_of_mem hu) (by rw [hg.name,hg.parent];exact e) (by rw [hg.parent];exact h0) ih
theorem Keeps.lex {g:Pt->Pt} (hg:Keeps g):∀{s t:List Pt},qF s t->qF (s.map g) (t.map g)
 |_,[],h=>by cases ‹List Pt› <;>exact h.elim
 |[],_::_,_=>trivial
 |a::s,b::t,h=>by
  rcases h with ⟨rfl,h⟩|h
  ·exact .inl ⟨rfl,hg.lex h⟩
  ·refine .inr ?_
   rw [eZ,hg.time,hg.time,hg.dot,hg.dot,hg.at_,hg.at_,<-eZ];exact h
theorem Keeps.order {g:Pt->Pt} (hg:Keeps g) (l:List Pt):dJ (l.map g)=(dJ l).map g:=by
 by_cases hW:Whole l/\l.length<=2000
 ·obtain ⟨h1,h2⟩:=gJ hW.1 hW.2
  refine xA ((hg.whole l).2 hW.1) (by rw [zql];exact hW.2) (h1.map g) ?_
  rw [List.pairwise_map]
  exact h2.imp λ⟨s,t,a,b,c⟩=>⟨_,_,hg.anc a,hg.anc b,hg.lex c⟩
 ·rw [kF hW,kF (by rw [hg.whole,zql];exact hW)];rfl
def gE (k:Nm) (p:Pt):Pt:=if aP p=k then afO p else p
theorem aiB (k:Nm):Keeps (gE k):=by
 constructor<;>intro p<;>unfold gE afO<;>split<;>rfl
theorem eraseP_len (k:Nm) (c:Cl):(eraseP c k).parts.length=c.parts.length:=zql _
theorem aiC {c:Cl} (h1:c.kind=4) (h2:c.val=Vl.zero) (hW:Whole c.parts) (hl:c.parts.length<=2000) (ho:dJ c.parts=c.parts):rightP c=0:=by
 unfold rightP
 rw [zn (by simp [h1]),zn (by simp [h2,(fT _).2 hW]),zn (by omega),zn (by simp [ho])]
theorem right_erase {c:Cl} (k:Nm) (h:rightP c=0):rightP (eraseP c k)=0:=by
 obtain ⟨h1,h2,hW,hl,ho⟩:=jK h
 refine aiC h1 h2 (((aiB k).whole _).2 hW) (by rw [eraseP_len];exact hl) ?_
 show dJ (c.parts.map (gE k))=c.parts.map (gE k)
 rw [(aiB k).order,ho]
theorem arJ {c:Cl} {w:Sp} {up:Nm} (h:eU c w up=0) (h0:up≠Nm.zero):∃u∈c.parts,aP u=up/\¬(bN u≠w/\jH (bN u) w=false):=by
 unfold eU at h
 rw [zn h0] at h
 cases hI:c.parts.findIdx? (λp=>decide (aP p=up)) with
 |none=>rw [hI] at h;cases h
 |some i=>
  rw [hI] at h
  obtain ⟨hk,hk1,_⟩:=List.findIdx?_eq_some_iff_getElem.1 hI
  simp only [zgg hk] at h
  refine ⟨c.parts[i],zgm hk,of_decide_eq_true hk1,λq=> ?_⟩
  rw [zp q] at h;cases h
theorem type_len (c:Cl) (s:ByteArray) (w:Sp) (up:Nm):(typeP c s w up).1.parts.length<=c.parts.length+s.size:=by
 unfold typeP
 split
 ·exact Nat.zero_le _
 ·split
  ·exact Nat.zero_le _
  ·split
   ·exact Nat.zero_le _
   ·split
    ·exact Nat.zero_le _
    ·refine Nat.le_trans (aeU _) ?_
     rw [zla,yG];exact Nat.le_refl _
end
section
set_option maxRecDepth 10000
set_option maxHeartbeats 4000000
structure Is (c:Cl) (l:List Pt):Prop where
 kind:c.kind=4
 val:c.val=Vl.zero
 whole:Whole l
 len:l.length<=2000
 parts:c.parts=dJ l
theorem Is.perm {c:Cl} {l:List Pt} (h:Is c l):c.parts.Perm l:=by rw [h.parts];exact (gJ h.whole h.len).1
theorem Is.of {c:Cl} (h:rightP c=0):Is c c.parts:=by
 obtain ⟨h1,h2,hW,hl,ho⟩:=jK h
 exact ⟨h1,h2,hW,hl,ho.symm⟩
theorem Whole.perm' {l m:List Pt} (hp:l.Perm m) (h:Whole l):Whole m:=h.perm hp
theorem Is.right {c:Cl} {l:List Pt} (h:Is c l):rightP c=0:=by
 refine aiC h.kind h.val (h.whole.perm' h.perm.symm) (by rw [h.perm.length_eq];exact h.len) ?_
 rw [wS h.perm];exact h.parts.symm
def wW (w:Sp):Dt:=⟨w.dev,w.seq⟩
def wOK (w:Sp):Prop:=withinB w.time 1 1125899906842624=true/\mayN ⟨⟨w.dev,w.seq⟩,0⟩=true
instance (w :Sp):Decidable (wOK w):=inferInstanceAs (Decidable (_/\_))
def wrL (l:List Pt) (w:Sp):Int:=if wOK w then wrF (wW w) w.time l 0 else-1
theorem aoD (c:Cl) (w:Sp):dH c w=wrL c.parts w:=rfl
theorem aA5 {d:Dt} {t:Int} {l m:List Pt} (h:l.Perm m):∀n,wrF d t l n=wrF d t m n:=by
 induction h with
 |nil=>intro n;rfl
 |cons x _ ih=>intro n;simp only [wrF,ih]
 |swap x y l=>
  intro n
  simp only [wrF]
  by_cases h1:x.dot=d
  ·by_cases h2:y.dot=d
   ·simp only [h1,h2,ne_eq,not_true_eq_false,if_false]
    by_cases h3:x.time=t
    ·by_cases h4:y.time=t
     ·simp only [h3,h4,not_true_eq_false,if_false];congr 1;omega
     ·simp only [h3,h4,not_true_eq_false,not_false_eq_true,if_false,if_true]
    ·by_cases h4:y.time=t
     ·simp only [h3,h4,not_true_eq_false,not_false_eq_true,if_false,if_true]
     ·simp only [h3,h4,not_false_eq_true,if_true]
   ·simp only [h1,h2,ne_eq,not_true_eq_false,not_false_eq_true,if_false,if_true]
  ·simp only [h1,ne_eq,not_false_eq_true,if_true]
 |trans _ _ ih1 ih2=>intro n;rw [ih1,ih2]
theorem aAd {l m:List Pt} (h:l.Perm m) (w:Sp):wrL l w=wrL m w:=by unfold wrL;rw [aA5 h]
theorem afR {d:Dt} {t:Int}:∀{l:List Pt} {n:Int},0<=n->(∀p∈l,0<=p.at_)->wrF d t l n= -1\/n<=wrF d t l n
 |[],n,_,_=> .inr (Int.le_refl _)
 |p::r,n,h,hf=>by
  have hp:=hf p (by simp)
  have hr:∀q∈r,0<=q.at_:=λq hq=>hf q (by simp [hq])
  simp only [wrF]
  split
  ·exact afR h hr
  ·split
   ·exact .inl rfl
   ·rcases afR (d:=d) (t:=t) (n:=max n (p.at_+1)) (by omega) hr with e|e
    ·exact .inl e
    ·exact .inr (by omega)
theorem agQ {d:Dt} {t:Int}:∀{l:List Pt} {n:Int},(∀p∈l,0<=p.at_)->0<=n->0<=wrF d t l n->∀p∈l,p.dot=d->p.time=t/\p.at_<wrF d t l n
 |[],_,_,_,_,p,h,_=>by cases h
 |x::r,n,hf,hn,h0,p,hp,e=>by
  have hx:=hf x (by simp)
  have hr:∀q∈r,0<=q.at_:=λq hq=>hf q (by simp [hq])
  simp only [wrF] at h0⊢
  rcases zmc.1 hp with rfl|hp
  ·rw [zn (by simp [e])] at h0⊢
   split at h0
   ·omega
   ·rename_i e2
    rw [zn e2]
    refine ⟨by simpa using e2, ?_⟩
    rcases afR (d:=d) (t:=t) (l:=r) (n:=max n (p.at_+1)) (by omega) hr with q|q<;>omega
  ·split at h0
   ·rename_i e2;rw [zp e2];exact agQ hr hn h0 p hp e
   ·rename_i e2
    rw [zn e2]
    split at h0
    ·omega
    ·rename_i e3;rw [zn e3];exact agQ hr (by omega) h0 p hp e
def eE (l:List Pt) (w:Sp) (up:Nm):Prop:=up=Nm.zero\/∃u∈l,aP u=up/\(bN u=w\/jH (bN u) w=true)
theorem aoY {c:Cl} {w:Sp} {up:Nm} (hn:named c.parts):eU c w up=0↔eE c.parts w up:=by
 constructor
 ·intro h
  by_cases h0:up=Nm.zero
  ·exact .inl h0
  ·obtain ⟨u,hu,e,h2⟩:=arJ h h0
   refine .inr ⟨u,hu,e, ?_⟩
   by_cases h3:bN u=w
   ·exact .inl h3
   ·refine .inr ?_
    cases h4:jH (bN u) w
    ·exact absurd ⟨h3,h4⟩ h2
    ·rfl
 ·intro h
  unfold eU
  by_cases h0:up=Nm.zero
  ·rw [zp h0]
  ·rw [zn h0]
   obtain ⟨u,hu,e,h2⟩:=h.resolve_left h0
   cases hI:c.parts.findIdx? (λp=>decide (aP p=up)) with
   |none=>
    have:=List.findIdx?_eq_none_iff.1 hI u hu
    simp [e] at this
   |some i=>
    obtain ⟨hk,hk1,_⟩:=List.findIdx?_eq_some_iff_getElem.1 hI
    simp only [zgg hk]
    have e2:c.parts[i]=u:=hn _ (zgm hk) _ hu ((of_decide_eq_true hk1).trans e.symm)
    rw [e2,zn]
    rintro ⟨h3,h4⟩
    rcases h2 with h2|h2
    ·exact h3 h2
    ·rw [h4] at h2;cases h2
theorem ayK {l m:List Pt} (h:l.Perm m) (w:Sp) (up:Nm):eE l w up↔eE m w up:=
 or_congr Iff.rfl ⟨λ⟨u,hu,q⟩=>⟨u,h.subset hu,q⟩,λ⟨u,hu,q⟩=>⟨u,h.symm.subset hu,q⟩⟩
theorem aFe {p:Pt} (h:bZ p=true):mayN (aP p)=true:=by
 simp only [bZ,zba] at h;exact h.1.2
theorem aES {w:Sp} (hw:wOK w) {n:Int} (h0:0<=n) (h1:n<=1999):mayN ⟨wW w,n⟩=true:=by
 have:=hw.2
 show mayN ⟨⟨w.dev,w.seq⟩,n⟩=true
 simp only [mayN,withinB,zba,zde] at this⊢
 exact ⟨this.1,h0,h1⟩
theorem aoU {l:List Pt} {w:Sp} {n:Int} {up:Nm} (b:UInt8) (hW:Whole l) (hw:wOK w) (h0:0<=n) (h1:n<=1999) (ha:∀p∈l,p.dot=wW w->p.time=w.time/\p.at_<n)
  (hup:up=Nm.zero\/∃u∈l,aP u=up/\(bN u=w\/jH (bN u) w=true)):
  Whole (l++[⟨⟨1,(b.toNat:Int),e0⟩,⟨w.dev,w.seq⟩,n,w.time,up.dot,up.at_,false⟩]):=by
 have hb:=b.toNat_lt
 obtain ⟨x,hx⟩:∃x:Pt,(⟨⟨1,(b.toNat:Int),e0⟩,⟨w.dev,w.seq⟩,n,w.time,up.dot,up.at_,false⟩:Pt)=x:=⟨_,rfl⟩
 have hxn:aP x=⟨wW w,n⟩:=by rw [<-hx];rfl
 have hxp:bH x=up:=by rw [<-hx];rfl
 have hxd:x.dot=wW w:=by rw [<-hx];rfl
 have hxt:x.time=w.time:=by rw [<-hx]
 have hxs:bN x=w:=by rw [<-hx];rfl
 have hxa:x.at_=n:=by rw [<-hx]
 have hxv:x.val=⟨1,(b.toNat:Int),e0⟩:=by rw [<-hx]
 rw [hx]
 have hmu:up=Nm.zero\/mayN up=true:=hup.imp id λ⟨u,hu,e,_⟩=>by rw [<-e];exact aFe (hW.formed u hu)
 have hfx:bZ x=true:=by
  unfold bZ
  rw [hxv,hxt,hxn,hxp,aES hw h0 h1,hw.1]
  have e1:withinB (b.toNat:Int) 0 255=true:=by
   unfold withinB;rw [zba,zde,zde];omega
  rcases hmu with e|e
  ·simp [e1,e]
  ·simp [e1,e]
 refine ⟨⟨λp hp=> ?_, ?_,λp hp q hq e=> ?_⟩,λp hp=> ?_⟩
 ·rcases zma.1 hp with hp|hp
  ·exact hW.formed p hp
  ·rw [zms.1 hp];exact hfx
 ·rw [List.map_append,List.nodup_append]
  refine ⟨hW.nodup,by simp,λm hm m' hm' e=> ?_⟩
  obtain ⟨p,hp,rfl⟩:=List.mem_map.1 hm
  rw [List.map_singleton,zms] at hm'
  rw [hm',hxn] at e
  injection e with e1 e2
  have:=(ha p hp e1).2
  omega
 ·rcases zma.1 hp with hp|hp<;>rcases zma.1 hq with hq|hq
  ·exact hW.times p hp q hq e
  ·rw [zms.1 hq] at e⊢;rw [hxt];exact (ha p hp (e.trans hxd)).1
  ·rw [zms.1 hp] at e⊢;rw [hxt];exact (ha q hq (e.symm.trans hxd)).1.symm
  ·rw [zms.1 hp,zms.1 hq]
 ·rcases zma.1 hp with hp|hp
  ·rcases hW.up p hp with e|⟨u,hu,e⟩
   ·exact .inl e
   ·exact .inr ⟨u,List.mem_append_left _ hu,e⟩
  ·rw [zms.1 hp,hxp]
   rcases hup with e|⟨u,hu,e,h3⟩
   ·exact .inl e
   ·refine .inr ⟨u,List.mem_append_left _ hu,e, ?_⟩
    unfold eO
    rw [hxs,hxa]
    rcases h3 with h3|h3
    ·have hd:u.dot=wW w:=by rw [<-h3];rfl
     have:=(ha u hu hd).2
     simp [h3,this]
    ·rw [h3];rfl
theorem zS {w:Sp}:∀(bs:List UInt8) {l:List Pt} {n:Int} {up:Nm},Whole l->wOK w->0<=n->n+bs.length<=2000->(∀p∈l,p.dot=wW w->p.time=w.time/\p.at_<n)->eE l w up->Whole (l++tyF w bs n up)
 |[],l,n,up,hW,_,_,_,_,_=>by rw [tyF,List.append_nil];exact hW
 |b::r,l,n,up,hW,hw,h0,h1,ha,hup=>by
  rw [zlc] at h1
  have h2:=aoU b hW hw h0 (by omega) ha hup
  have:=zS r (n:=n+1) (up:=⟨⟨w.dev,w.seq⟩,n⟩) h2 hw (by omega) (by omega) (λp hp e=>by
   rcases zma.1 hp with hp|hp
   ·have:=ha p hp e;exact ⟨this.1,by omega⟩
   ·rw [zms.1 hp];exact ⟨rfl,by simp only;omega⟩) (.inr ⟨_,List.mem_append_right _ (zms.2 rfl),rfl, .inl rfl⟩)
  rw [List.append_assoc] at this
  exact this
open Classical in
theorem aAe {l:List Pt} (hW:Whole l):∀p∈l,0<=p.at_:=λp hp=>(mJ (hW.formed p hp)).1
theorem alT (s:ByteArray):s.data.toList.length=s.size:=rfl
theorem Is.type {c:Cl} {l:List Pt} (h:Is c l) (s:ByteArray) (w:Sp) (up:Nm) (hl:l.length+s.size<=2000):
  ((wrL l w<0\/¬eE l w up\/200<s.size\/2000<wrL l w+s.size)/\(typeP c s w up).2≠0)\/
  (0<=wrL l w/\eE l w up/\¬(200<s.size\/2000<wrL l w+s.size))/\(typeP c s w up).2=0/\Is (typeP c s w up).1 (l++tyF w s.data.toList (wrL l w) up):=by
 have hp:=h.perm
 have hWc:Whole c.parts:=h.whole.perm' hp.symm
 have e1:dH c w=wrL l w:=by rw [aoD,aAd hp]
 have e2:eU c w up=0↔eE l w up:=by rw [aoY hWc.named,ayK hp]
 have e3:c.parts.length=l.length:=hp.length_eq
 unfold typeP
 rw [h.right,e1,e3]
 simp only [ne_eq,not_true_eq_false,if_false]
 by_cases h1:wrL l w<0
 ·left;rw [zp h1];exact ⟨.inl h1,by simp⟩
 ·rw [zn h1]
  by_cases h2:200<s.size\/2000<l.length+s.size\/2000<wrL l w+s.size
  ·left;rw [zp h2];exact ⟨by rcases h2 with q|q|q;exact .inr (.inr (.inl q));omega;exact .inr (.inr (.inr q)),by simp⟩
  ·rw [zn h2]
   by_cases h3:eU c w up=0
   ·right
    rw [zn (by simp [h3])]
    have hb:=e2.1 h3
    refine ⟨⟨by omega,hb,λq=>h2 (q.imp id .inr)⟩,rfl,h.kind,h.val, ?_, ?_, ?_⟩
    ·have hw:wOK w:=by
      apply Classical.byContradiction
      intro q;unfold wrL at h1;rw [zn q] at h1;omega
     have e4:wrL l w=wrF (wW w) w.time l 0:=by unfold wrL;rw [zp hw]
     refine zS _ h.whole hw (by omega) (by rw [alT];omega) ?_ hb
     rw [e4] at h1⊢
     exact agQ (aAe h.whole) (Int.le_refl 0) (by omega)
    ·rw [zla,yG,alT];omega
    ·exact wS (hp.append_right _)
   ·left
    rw [zp h3]
    exact ⟨.inr (.inl λq=>h3 (e2.2 q)),h3⟩
end
end Go.Proofs.YtloecjjehapblaaGreatDoor.T
namespace Go.Proofs.YtloecjjehapblaaGreatDoor
open Go Go.Abs
set_option maxRecDepth 10000
set_option maxHeartbeats 4000000
theorem qH {α:Type} (f:α->Bool) (a:α) (l:List α):acY f (a::l)=if f a=true then 0 else acY f l+1:=by
 unfold acY
 rw [List.findIdx?_cons]
 by_cases h:f a=true
 ·rw [zp h,zp h];rfl
 ·rw [zn h,zn (by simpa using h)]
  cases List.findIdx? f l<;>simp
theorem ahW {α:Type} {l:List α} {k:Nat} {x y:α}:y∈l.take k++[x]++l.drop k↔y=x\/y∈l:=by
 rw [zma,zma,zms]
 have h:y∈l↔y∈l.take k\/y∈l.drop k:=by rw [<-zma,List.take_append_drop]
 rw [h]
 constructor
 ·rintro ((q|q)|q)
  ·exact .inr (.inl q)
  ·exact .inl q
  ·exact .inr (.inr q)
 ·rintro (q|q|q)
  ·exact .inl (.inr q)
  ·exact .inl (.inl q)
  ·exact .inr q
theorem aoI {α:Type} {r:α->α->Prop} (tr:∀a b c,r a b->r b c->r a c) {x:α} {f:α->Bool}:∀{l:List α},l.Pairwise r->(∀p∈l,f p=false->r p x)->(∀p∈l,f p=true->r x p)->(l.take (acY f l)++[x]++l.drop (acY f l)).Pairwise r
 |[],_,_,_=>by simp
 |a::l,h,h1,h2=>by
  obtain ⟨ha,hl⟩:=List.pairwise_cons.1 h
  rw [qH]
  by_cases hf:f a=true
  ·rw [zp hf]
   have hxa:=h2 a (by simp) hf
   show (x::a::l).Pairwise r
   refine List.pairwise_cons.2 ⟨λy hy=> ?_,h⟩
   rcases zmc.1 hy with rfl|hy
   ·exact hxa
   ·exact tr _ _ _ hxa (ha y hy)
  ·rw [zn hf,List.take_succ_cons,List.drop_succ_cons,List.cons_append,List.cons_append]
   refine List.pairwise_cons.2 ⟨λy hy=> ?_,aoI tr hl (λp hp=>h1 p (List.mem_cons_of_mem _ hp)) (λp hp=>h2 p (List.mem_cons_of_mem _ hp))⟩
   rcases ahW.1 hy with rfl|hy
   ·exact h1 a (by simp) (by simpa using hf)
   ·exact ha y hy
theorem aeM {l:List Pt} {k:Nat} {x y:Pt}:y∈dL l k [x]↔y=x\/y∈l:=ahW
theorem arO {ok:Pt->Bool} {bh:Pt->Pt->Bool} (tr:∀{a b c},bh b a=true->bh c b=true->bh c a=true) {l:List Pt}:xQ ok bh l=true↔(∀p∈l,ok p=true)/\l.Pairwise λa b=>bh b a=true:=by
 constructor
 ·intro h
  have hj:∀j (hj:j<l.length),ok l[j]=true/\(j=0\/bh l[j] (l[j-1]'(by omega))=true):=λj hj=>by
   unfold xQ at h
   rw [zal] at h
   have:=h j (List.mem_range.2 hj)
   rw [getElem!_pos l j hj,getElem!_pos l (j-1) (by omega),zba,Bool.or_eq_true,zde] at this
   exact this
  refine ⟨λp hp=>by obtain ⟨j,hj',rfl⟩:=zgo hp;exact (hj j hj').1,List.pairwise_iff_getElem.2 λi j hi hj' hij=> ?_⟩
  have key:∀d,∀h:i+d+1<l.length,bh l[i+d+1] l[i]=true:=λd=>by
   induction d with
   |zero=>intro h;exact (hj (i+1) h).2.resolve_left (by omega)
   |succ d ih=>
    intro h
    have h1:=ih (by omega)
    have h2:=(hj (i+(d+1)+1) h).2.resolve_left (by omega)
    exact tr h1 h2
  have:=key (j-i-1) (by omega)
  simp only [show i+(j-i-1)+1=j by omega] at this
  exact this
 ·rintro ⟨h1,h2⟩
  refine agZ λj hj=> ?_
  rw [h1 _ (zgm hj),Bool.true_and]
  rcases Nat.eq_zero_or_pos j with rfl|h0
  ·rfl
  ·rw [List.pairwise_iff_getElem.1 h2 (j-1) j (by omega) hj (by omega),Bool.or_true]
theorem sD {c:Cl}:lQ c=true↔(c.kind=1/\c.val=Vl.zero)/\(∀p∈c.parts,iY p=true)/\c.parts.Pairwise λa b=>bI b.dot a.dot=true:=by
 unfold lQ
 rw [zba,zde,arO (bh:=λp q=>bI p.dot q.dot) λh1 h2=>pN h1 h2]
theorem ahA {p q:Pt}:eE p q=true↔p.val.n>q.val.n\/p.val.n=q.val.n/\bI p.dot q.dot=true:=by
 unfold eE
 rw [Bool.or_eq_true,zba,zde,zde]
theorem ayW {a b c:Pt} (h1:eE b a=true) (h2:eE c b=true):eE c a=true:=by
 rw [ahA] at*
 rcases h1 with h1|⟨e1,h1⟩<;>rcases h2 with h2|⟨e2,h2⟩
 ·exact .inl (by omega)
 ·exact .inl (by omega)
 ·exact .inl (by omega)
 ·exact .inr ⟨by omega,pN h1 h2⟩
theorem aDc {a b:Pt} (h:eE a b=false) (hne:¬(a.val.n=b.val.n/\a.dot=b.dot)):eE b a=true:=by
 rw [<-Bool.not_eq_true,ahA] at h
 rw [ahA]
 rcases Int.lt_trichotomy a.val.n b.val.n with q|q|q
 ·exact .inl q
 ·refine .inr ⟨q.symm, ?_⟩
  refine wF ?_ λe=>hne ⟨q,e⟩
  rw [<-Bool.not_eq_true]
  exact λw=>h (.inr ⟨q,w⟩)
 ·exact absurd (.inl q) h
theorem jT {c:Cl}:jD c=true↔(c.kind=3/\c.val=Vl.zero)/\(∀p∈c.parts,jA p=true)/\c.parts.Pairwise λa b=>eE b a=true:=by
 unfold jD
 rw [zba,zde,arO (bh:=eE) λh1 h2=>ayW h1 h2]
theorem awZ {v:Vl} {d:Dt} (hv:cP v=true) (hd:fG d=true):iY (ptN v d)=true:=by
 unfold iY
 rw [show (ptN v d).val=v from rfl,show (ptN v d).dot=d from rfl,hv,hd]
 have:lJ (ptN v d):=⟨rfl,rfl,rfl,rfl,rfl⟩
 simp only [decide_eq_true this];rfl
theorem axZ {n:Int} {d:Dt} (hv:cP (nV n)=true) (hd:fG d=true):jA (ptN (nV n) d)=true:=by
 unfold jA
 rw [show (ptN (nV n) d).val=nV n from rfl,show (ptN (nV n) d).dot=d from rfl,hv,hd]
 have:lJ (ptN (nV n) d):=⟨rfl,rfl,rfl,rfl,rfl⟩
 simp only [decide_eq_true this];rfl
theorem uA {c:Cl} {v:Vl} {d:Dt} {kn:List Int} (h:lQ c=true) (hv:cP v=true) (hd:fG d=true):lQ (gS c v d kn)=true:=by
 obtain ⟨h0,h1,h2⟩:=sD.1 h
 refine sD.2 ⟨h0,λp hp=> ?_,aoI (r:=λa b:Pt=>bI b.dot a.dot=true) (λ_ _ _ h1 h2=>pN h1 h2) (h2.filter _) (λp hp hf=> ?_) λp hp hf=> ?_⟩
 ·rcases aeM.1 hp with rfl|hp
  ·exact awZ hv hd
  ·exact h1 p ((List.mem_filter.1 hp).1)
 ·have hk:=(List.mem_filter.1 hp).2
  unfold rB at hk
  rw [zba,zde] at hk
  exact wF hf hk.1
 ·exact hf
theorem zO {c:Cl} {n:Int} {d:Dt} (h:jD c=true) (hv:cP (nV n)=true) (hd:fG d=true):jD (nD c n d)=true:=by
 unfold nD
 split
 ·exact h
 ·rename_i hs
  obtain ⟨h0,h1,h2⟩:=jT.1 h
  refine jT.2 ⟨h0,λp hp=> ?_,aoI (r:=λa b:Pt=>eE b a=true) (λ_ _ _ h1 h2=>ayW h1 h2) h2 (λp hp hf=>aDc hf ?_) λp hp hf=>hf⟩
  ·rcases aeM.1 hp with rfl|hp
   ·exact axZ hv hd
   ·exact h1 p hp
  ·rintro ⟨q1,q2⟩
   apply hs
   rw [List.any_eq_true]
   refine ⟨p,hp, ?_⟩
   unfold rA
   rw [decide_eq_true (show p.val.n=n from q1),decide_eq_true (show p.dot=d from q2)];rfl
theorem aiE {c:Cl} {n:Int} {d:Dt} {kn:List Int} (h:jD c=true):jD (rG c n d kn)=true:=by
 obtain ⟨h0,h1,h2⟩:=jT.1 h
 exact jT.2 ⟨h0,λp hp=>h1 p ((List.mem_filter.1 hp).1),h2.filter _⟩
theorem abP {c:Cl} {n:Int} (h:(sT c n).2=0):(sT c n).1.kind=2/\cO (sT c n).1=0/\(sT c n).1.parts=[]:=by
 unfold sT at*
 split at h
 ·rename_i q;exact absurd h q
 ·rename_i q;rw [zn q]
  split at h
  ·rename_i q2;exact absurd h q2
  ·rename_i q2;rw [zn q2]
   split at h
   ·rename_i q3;exact absurd h q3
   ·rename_i q3;rw [zn q3]
    exact ⟨rfl,zdn q3,rfl⟩
theorem yP {c:Cl} {s:ByteArray} {w:T.Sp} {up:T.Nm} (h:T.rightP c=0) (h0:(T.typeP c s w up).2=0):T.rightP (T.typeP c s w up).1=0:=by
 have hl:c.parts.length+s.size<=2000:=by
  apply Classical.byContradiction
  intro q
  unfold T.typeP at h0
  rw [zn (by simp [h])] at h0
  split at h0
  ·simp at h0
  ·rw [zp (.inr (.inl (by omega)))] at h0
   simp at h0
 rcases (T.Is.of h).type s w up hl with ⟨_,q⟩|⟨_,_,q⟩
 ·exact absurd h0 q
 ·exact q.right
theorem iX {c:Cl} (h:T.rightP c=0):c.kind=4:=by
 unfold T.rightP at h
 split at h
 ·cases h
 ·rename_i q;exact zdn q
theorem cM {c:Cl}:jS T.rightP c=true↔(c.kind=0/\cP c.val=true/\c.parts=[])\/(c.kind=1/\lQ c=true)\/(c.kind=2/\cO c=0)\/(c.kind=3/\jD c=true)\/(c.kind=4/\T.rightP c=0):=by
 unfold jS
 by_cases h0:c.kind=0
 ·rw [zp h0,zba,zde]
  constructor
  ·rintro ⟨a,b⟩;exact .inl ⟨h0,a,List.eq_nil_of_length_eq_zero b⟩
  ·rintro (⟨_,a,b⟩|⟨k,_⟩|⟨k,_⟩|⟨k,_⟩|⟨k,_⟩)
   ·exact ⟨a,by rw [b];rfl⟩
   all_goals omega
 rw [zn h0]
 by_cases h1:c.kind=1
 ·rw [zp h1]
  constructor
  ·exact λa=> .inr (.inl ⟨h1,a⟩)
  ·rintro (⟨k,_⟩|⟨_,a⟩|⟨k,_⟩|⟨k,_⟩|⟨k,_⟩)
   ·omega
   ·exact a
   all_goals omega
 rw [zn h1]
 by_cases h2:c.kind=2
 ·rw [zp h2,zde]
  constructor
  ·exact λa=> .inr (.inr (.inl ⟨h2,a⟩))
  ·rintro (⟨k,_⟩|⟨k,_⟩|⟨_,a⟩|⟨k,_⟩|⟨k,_⟩)
   ·omega
   ·omega
   ·exact a
   all_goals omega
 rw [zn h2]
 by_cases h3:c.kind=3
 ·rw [zp h3]
  constructor
  ·exact λa=> .inr (.inr (.inr (.inl ⟨h3,a⟩)))
  ·rintro (⟨k,_⟩|⟨k,_⟩|⟨k,_⟩|⟨_,a⟩|⟨k,_⟩)
   ·omega
   ·omega
   ·omega
   ·exact a
   ·omega
 rw [zn h3]
 by_cases h4:c.kind=4
 ·rw [zp h4,zde]
  constructor
  ·exact λa=> .inr (.inr (.inr (.inr ⟨h4,a⟩)))
  ·rintro (⟨k,_⟩|⟨k,_⟩|⟨k,_⟩|⟨k,_⟩|⟨_,a⟩)
   ·omega
   ·omega
   ·omega
   ·omega
   ·exact a
 ·rw [zn h4]
  simp [h0,h1,h2,h3,h4]
theorem amN {v:Vl} (h:cP v=true) (hk:v.kind=1):cP (nV v.n)=true:=by
 unfold cP at*
 rw [zn (by omega),zp hk] at h
 rw [zn (by simp [nV]),zp (show (nV v.n).kind=1 from rfl)]
 simp only [zba,zde] at*
 exact ⟨⟨rfl,h.1.2⟩,h.2⟩
theorem pQ {w:Wr} (h:uP w=true):fG w.dot=true:=by
 unfold uP T.withinB at h
 unfold fG Wr.dot
 simp only [zba,zde] at*
 omega
theorem aD4 {w:Wr} {c:Cl} {o:Ot} {co:Co} (hw:uP w=true) (hc:jS T.rightP c=true) (hf:afC o.kind c.kind=true) (hv:qT co o=0) (h0:(eM w c o).2=0):jS T.rightP (eM w c o).1=true/\(eM w c o).1.kind=c.kind:=by
 have hd:=pQ hw
 have hvr:cP o.val=true:=by
  unfold qT at hv
  split at hv
  ·cases hv
  ·rename_i q
   cases e:cP o.val with
   |true=>rfl
   |false=>exact absurd (.inr e) q
 have hn:o.kind≠2->o.kind≠6->o.kind≠7->cP (nV o.val.n)=true:=λa b e=>by
  apply amN hvr
  unfold qT at hv
  split at hv
  ·cases hv
  ·split at hv
   ·rename_i q;exact absurd q.1 a
   split at hv
   ·cases hv
   split at hv
   ·cases hv
   ·rename_i q;exact Classical.byContradiction λz=>q ⟨a,b,z⟩
 unfold eM at*
 unfold afC at hf
 by_cases k2:o.kind=2
 ·rw [zp k2] at hf h0⊢
  rw [zde] at hf
  by_cases c0:c.kind=0
  ·rw [zp c0]
   exact ⟨cM.2 (.inl ⟨rfl,hvr,rfl⟩),c0.symm⟩
  ·rw [zn c0]
   have c1:c.kind=1:=hf.resolve_left c0
   rcases cM.1 hc with q|q|q|q|q
   ·exact absurd q.1 c0
   ·exact ⟨cM.2 (.inr (.inl ⟨c1,uA q.2 hvr hd⟩)),rfl⟩
   all_goals omega
 rw [zn k2] at hf h0⊢
 by_cases k3:o.kind=3
 ·rw [zp k3] at hf h0⊢
  rw [zde] at hf
  obtain ⟨a1,a2,a3⟩:=abP h0
  exact ⟨cM.2 (.inr (.inr (.inl ⟨a1,a2⟩))),by rw [a1,hf]⟩
 rw [zn k3] at hf h0⊢
 by_cases k4:o.kind=4
 ·rw [zp (.inl k4),zde] at hf
  rw [zp k4] at h0⊢
  rcases cM.1 hc with q|q|q|q|q
  ·omega
  ·omega
  ·omega
  ·have hk:(nD c o.val.n w.dot).kind=c.kind:=by unfold nD;split<;>rfl
   exact ⟨cM.2 (.inr (.inr (.inr (.inl ⟨by rw [hk,hf],zO q.2 (hn k2 (by omega) (by omega)) hd⟩)))),hk⟩
  ·omega
 rw [zn k4] at h0⊢
 by_cases k5:o.kind=5
 ·rw [zp (.inr k5),zde] at hf
  rw [zp k5] at h0⊢
  rcases cM.1 hc with q|q|q|q|q
  ·omega
  ·omega
  ·omega
  ·exact ⟨cM.2 (.inr (.inr (.inr (.inl ⟨hf,aiE q.2⟩)))),rfl⟩
  ·omega
 rw [zn (by omega)] at hf
 rw [zn k5] at h0⊢
 have hf4:(o.kind=6\/o.kind=7)/\c.kind=4:=by
  split at hf
  ·rename_i q;exact ⟨q,by simpa using hf⟩
  ·cases hf
 have hr:T.rightP c=0:=by
  rcases cM.1 hc with q|q|q|q|q
  ·omega
  ·omega
  ·omega
  ·omega
  ·exact q.2
 by_cases k6:o.kind=6
 ·rw [zp k6] at h0⊢
  have:=yP hr h0
  exact ⟨cM.2 (.inr (.inr (.inr (.inr ⟨iX this,this⟩)))),by rw [iX this,hf4.2]⟩
 ·rw [zn k6]
  have:=T.right_erase ⟨o.after,o.at_⟩ hr
  exact ⟨cM.2 (.inr (.inr (.inr (.inr ⟨iX this,this⟩)))),rfl⟩
theorem aBI :T.rightP ⟨4,Vl.zero,[]⟩=0:=by kernel_rfl
theorem azN {w:Wr} {c:Co} {v:Vl} (hw:uP w=true) (hk:0<=c.kind/\c.kind<=4) (hv:sI c v=0) (h0:(kE w c.kind v).2=0):jS T.rightP (kE w c.kind v).1=true/\(kE w c.kind v).1.kind=c.kind:=by
 have hd:=pQ hw
 unfold sI at hv
 split at hv
 ·cases hv
 rename_i q0
 have hvr:cP v=true:=by simpa using q0
 split at hv
 ·cases hv
 rename_i q1
 split at hv
 ·cases hv
 rename_i q2
 unfold kE at*
 by_cases c0:c.kind=0
 ·rw [zp c0]
  exact ⟨cM.2 (.inl ⟨rfl,hvr,rfl⟩),c0.symm⟩
 rw [zn c0] at h0⊢
 by_cases c2:c.kind=2
 ·rw [zp c2] at h0⊢
  obtain ⟨a1,a2,a3⟩:=abP h0
  exact ⟨cM.2 (.inr (.inr (.inl ⟨a1,a2⟩))),by rw [a1,c2]⟩
 rw [zn c2] at h0⊢
 by_cases c4:c.kind=4
 ·rw [zp c4] at h0⊢
  have:=yP aBI h0
  exact ⟨cM.2 (.inr (.inr (.inr (.inr ⟨iX this,this⟩)))),by rw [iX this,c4]⟩
 rw [zn c4] at h0⊢
 have h13:c.kind=1\/c.kind=3:=by omega
 have hM:c.kind=1->lQ ⟨c.kind,Vl.zero,[]⟩=true:=λe=>sD.2 ⟨⟨e,rfl⟩,by simp,List.Pairwise.nil⟩
 have hB:c.kind=3->jD ⟨c.kind,Vl.zero,[]⟩=true:=λe=>jT.2 ⟨⟨e,rfl⟩,by simp,List.Pairwise.nil⟩
 by_cases v0:v.kind=0
 ·rw [zp v0]
  rcases h13 with e|e
  ·exact ⟨cM.2 (.inr (.inl ⟨e,hM e⟩)),rfl⟩
  ·exact ⟨cM.2 (.inr (.inr (.inr (.inl ⟨e,hB e⟩)))),rfl⟩
 rw [zn v0] at h0⊢
 by_cases c3:c.kind=3
 ·rw [zp c3]
  have hk1:v.kind=1:=by
   have:v.kind=dU c:=Classical.byContradiction λz=>q2 ⟨v0,z⟩
   rw [this];unfold dU;rw [zn (by omega),zp (.inr c3)]
  have hk:(nD ⟨c.kind,Vl.zero,[]⟩ v.n w.dot).kind=c.kind:=by unfold nD;split<;>rfl
  exact ⟨cM.2 (.inr (.inr (.inr (.inl ⟨by rw [hk,c3],zO (hB c3) (amN hvr hk1) hd⟩)))),hk⟩
 ·rw [zn c3]
  have c1:c.kind=1:=by omega
  exact ⟨cM.2 (.inr (.inl ⟨c1,uA (hM c1) hvr hd⟩)),rfl⟩
end Go.Proofs.YtloecjjehapblaaGreatDoor
