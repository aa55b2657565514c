import Derived.Test.YtfablfldonhkiaaGreatDoorClAl
import Derived.Test.YtfablfldonhkiaaGreatDoorClAo
set_option linter.unusedSimpArgs false
set_option linter.unusedVariables false
namespace Go.Proofs.YtfablfldonhkiaaGreatDoor.T
open Go Go.Abs
section
set_option maxRecDepth 10000
set_option maxHeartbeats 4000000
structure Keeps (g:Pt->Pt):Prop where
 val:∀p,(g p).val=p.val
 dot:∀p,(g p).dot=p.dot
 at_:∀p,(g p).at_=p.at_
 time:∀p,(g p).time=p.time
 after:∀p,(g p).after=p.after
 afterAt:∀p,(g p).afterAt=p.afterAt
theorem Keeps.name {g:Pt->Pt} (hg:Keeps g) (p:Pt):aG (g p)=aG p:=by unfold aG;rw [hg.dot,hg.at_]
theorem Keeps.parent {g:Pt->Pt} (hg:Keeps g) (p:Pt):aH (g p)=aH p:=by unfold aH;rw [hg.after,hg.afterAt]
theorem Keeps.stamp {g:Pt->Pt} (hg:Keeps g) (p:Pt):aN (g p)=aN p:=by unfold aN;rw [hg.dot,hg.time]
theorem Keeps.formed {g:Pt->Pt} (hg:Keeps g) (p:Pt):bL (g p)=bL p:=by unfold bL;rw [hg.val,hg.time,hg.name,hg.parent]
theorem Keeps.ahead {g:Pt->Pt} (hg:Keeps g) (a b:Pt):dO (g a) (g b)=dO a b:=by unfold dO;rw [hg.stamp,hg.stamp,hg.at_,hg.at_]
theorem Keeps.names {g:Pt->Pt} (hg:Keeps g) (l:List Pt):(l.map g).map aG=l.map aG:=by
 rw [List.map_map];exact List.map_congr_left λp _=>hg.name p
theorem Keeps.whole {g:Pt->Pt} (hg:Keeps g) (l:List Pt):Whole (l.map g)↔Whole l:=by
 constructor
 ·intro h
  refine ⟨⟨λp hp=> ?_, ?_,λp hp q hq e=> ?_⟩,λp hp=> ?_⟩
  ·rw [<-hg.formed];exact h.formed _ (List.mem_map_of_mem hp)
  ·rw [<-hg.names];exact h.nodup
  ·rw [<-hg.time p,<-hg.time q];exact h.times _ (List.mem_map_of_mem hp) _ (List.mem_map_of_mem hq) (by rw [hg.dot,hg.dot,e])
  ·rcases h.up _ (List.mem_map_of_mem hp) with e|⟨j,f,b,c⟩
   ·left;rw [<-hg.parent];exact e
   ·obtain ⟨u,hu,rfl⟩:=List.mem_map.1 f
    right;exact ⟨u,hu,by rw [<-hg.name,b,hg.parent],by rw [<-hg.ahead u p];exact c⟩
 ·intro h
  refine ⟨⟨λi a=> ?_, ?_,λi a q' d e=> ?_⟩,λi a=> ?_⟩
  ·obtain ⟨p,hp,rfl⟩:=List.mem_map.1 a;rw [hg.formed];exact h.formed p hp
  ·rw [hg.names];exact h.nodup
  ·obtain ⟨p,hp,rfl⟩:=List.mem_map.1 a
   obtain ⟨q,hq,rfl⟩:=List.mem_map.1 d;rw [hg.time,hg.time];exact h.times p hp q hq (by rw [hg.dot,hg.dot] at e;exact e)
  ·obtain ⟨p,hp,rfl⟩:=List.mem_map.1 a
   rcases h.up p hp with e|⟨u,hu,b,c⟩
   ·left;rw [hg.parent];exact e
   ·right;exact ⟨g u,List.mem_map_of_mem hu,by rw [hg.name,b,hg.parent],by rw [hg.ahead];exact c⟩
theorem Keeps.anc {g:Pt->Pt} (hg:Keeps g) {l:List Pt} {p:Pt} {s:List Pt} (h:Anc l p s):Anc (l.map g) (g p) (s.map g):=by
 induction h with
 |root hp h0=>exact .root (List.mem_map_of_mem hp) (by rw [hg.parent];exact h0)
 |step hp hu e h0 _ ih=>rw [List.map_append];exact .step (List.mem_map_of_mem hp) (List.mem_map_of_mem hu) (by rw [hg.name,hg.parent];exact e) (by rw [hg.parent];exact h0) ih
theorem Keeps.lex {g:Pt->Pt} (hg:Keeps g):∀{s t:List Pt},gD s t->gD (s.map g) (t.map g)
 |_,[],h=>by cases ‹List Pt› <;>exact h.elim
 |[],_::_,_=>trivial
 |a::s,b::t,h=>by
  rcases h with ⟨rfl,h⟩|h
  ·exact .inl ⟨rfl,hg.lex h⟩
  ·refine .inr ?_
   rw [fH,hg.time,hg.time,hg.dot,hg.dot,hg.at_,hg.at_,<-fH];exact h
theorem Keeps.order {g:Pt->Pt} (hg:Keeps g) (l:List Pt):cQ (l.map g)=(cQ l).map g:=by
 by_cases d:Whole l/\l.length<=2000
 ·obtain ⟨e,f⟩:=fY d.1 d.2
  refine zP ((hg.whole l).2 d.1) (by rw [zql];exact d.2) (e.map g) ?_;rw [List.pairwise_map];exact f.imp λ⟨s,t,a,b,c⟩=>⟨_,_,hg.anc a,hg.anc b,hg.lex c⟩
 ·rw [iZ d,iZ (by rw [hg.whole,zql];exact d)];rfl
def gEQ (k:Nm) (p:Pt):Pt:=if aG p=k then aiJ p else p
theorem alJ (k:Nm):Keeps (gEQ k):=by
 constructor<;>intro p<;>unfold gEQ aiJ<;>split<;>rfl
theorem eraseP_len (k:Nm) (c:Cl):(eraseP c k).parts.length=c.parts.length:=zql _
theorem alK {c:Cl} (a:c.kind=4) (b:c.val=Vl.zero) (d:Whole c.parts) (hl:c.parts.length<=2000) (ho:cQ c.parts=c.parts):rightP c=0:=by
 unfold rightP;rw [zn (by simp [a]),zn (by simp [b,(eE _).2 d]),zn (by omega),zn (by simp [ho])]
theorem right_erase {c:Cl} (k:Nm) (h:rightP c=0):rightP (eraseP c k)=0:=by
 obtain ⟨a,b,d,hl,ho⟩:=gT h;refine alK a b (((alJ k).whole _).2 d) (by rw [eraseP_len];exact hl) ?_;show cQ (c.parts.map (gEQ k))=c.parts.map (gEQ k);rw [(alJ k).order,ho]
theorem avP {c:Cl} {w:Sp} {up:Nm} (h:fE c w up=0) (h0:up≠Nm.zero):∃u∈c.parts,aG u=up/\¬(aN u≠w/\gI (aN u) w=false):=by
 unfold fE at h;rw [zn h0] at h;cases a:c.parts.findIdx? (λp=>decide (aG p=up)) with
 |none=>rw [a] at h;cases h
 |some i=>
  rw [a] at h;obtain ⟨hk,b,_⟩:=List.findIdx?_eq_some_iff_getElem.1 a;simp only [zgg hk] at h;refine ⟨c.parts[i],zgm hk,of_decide_eq_true b,λq=> ?_⟩;rw [zp q] at h;cases h
theorem type_len (c:Cl) (s:ByteArray) (w:Sp) (up:Nm):(typeP c s w up).1.parts.length<=c.parts.length+s.size:=by
 unfold typeP;split
 ·exact Nat.zero_le _
 ·split
  ·exact Nat.zero_le _
  ·split
   ·exact Nat.zero_le _
   ·split
    ·exact Nat.zero_le _
    ·refine Nat.le_trans (yG _) ?_
     rw [zla,abJ];exact Nat.le_refl _
end
section
set_option maxRecDepth 10000
set_option maxHeartbeats 4000000
structure Is (c:Cl) (l:List Pt):Prop where
 kind:c.kind=4
 val:c.val=Vl.zero
 whole:Whole l
 len:l.length<=2000
 parts:c.parts=cQ l
theorem Is.perm {c:Cl} {l:List Pt} (h:Is c l):c.parts.Perm l:=by rw [h.parts];exact (fY h.whole h.len).1
theorem Is.of {c:Cl} (h:rightP c=0):Is c c.parts:=by
 obtain ⟨a,b,d,hl,ho⟩:=gT h;exact ⟨a,b,d,hl,ho.symm⟩
theorem Whole.perm' {l m:List Pt} (hp:l.Perm m) (h:Whole l):Whole m:=h.perm hp
theorem Is.right {c:Cl} {l:List Pt} (h:Is c l):rightP c=0:=by
 refine alK h.kind h.val (h.whole.perm' h.perm.symm) (by rw [h.perm.length_eq];exact h.len) ?_;rw [zG h.perm];exact h.parts.symm
def zN (w:Sp):Dt:=⟨w.dev,w.seq⟩
def wOK (w:Sp):Prop:=withinB w.time 1 1125899906842624=true/\mayN ⟨⟨w.dev,w.seq⟩,0⟩=true
instance (w :Sp):Decidable (wOK w):=inferInstanceAs (Decidable (_/\_))
def wrL (l:List Pt) (w:Sp):Int:=if wOK w then wrF (zN w) w.time l 0 else-1
theorem asA (c:Cl) (w:Sp):dJ c w=wrL c.parts w:=rfl
theorem aDG {d:Dt} {t:Int} {l m:List Pt} (h:l.Perm m):∀n,wrF d t l n=wrF d t m n:=by
 induction h with
 |nil=>intro n;rfl
 |cons x _ ih=>intro n;simp only [wrF,ih]
 |swap x y l=>
  intro n;simp only [wrF];by_cases b:x.dot=d
  ·by_cases c:y.dot=d
   ·simp only [b,c,ne_eq,not_true_eq_false,if_false]
    by_cases a:x.time=t
    ·by_cases h4:y.time=t
     ·simp only [a,h4,not_true_eq_false,if_false];congr 1;omega
     ·simp only [a,h4,not_true_eq_false,not_false_eq_true,if_false,if_true]
    ·by_cases h4:y.time=t
     ·simp only [a,h4,not_true_eq_false,not_false_eq_true,if_false,if_true]
     ·simp only [a,h4,not_false_eq_true,if_true]
   ·simp only [b,c,ne_eq,not_true_eq_false,not_false_eq_true,if_false,if_true]
  ·simp only [b,ne_eq,not_false_eq_true,if_true]
 |trans _ _ ih1 ih2=>intro n;rw [ih1,ih2]
theorem aCy {l m:List Pt} (h:l.Perm m) (w:Sp):wrL l w=wrL m w:=by unfold wrL;rw [aDG h]
theorem aiM {d:Dt} {t:Int}:∀{l:List Pt} {n:Int},0<=n->(∀p∈l,0<=p.at_)->wrF d t l n= -1\/n<=wrF d t l n
 |[],n,_,_=> .inr (Int.le_refl _)
 |p::r,n,h,hf=>by
  have hp:=hf p (by simp)
  have a:∀q∈r,0<=q.at_:=λq hq=>hf q (by simp [hq])
  simp only [wrF]
  split
  ·exact aiM h a
  ·split
   ·exact .inl rfl
   ·rcases aiM (d:=d) (t:=t) (n:=max n (p.at_+1)) (by omega) a with e|e
    ·exact .inl e
    ·exact .inr (by omega)
theorem ajS {d:Dt} {t:Int}:∀{l:List Pt} {n:Int},(∀p∈l,0<=p.at_)->0<=n->0<=wrF d t l n->∀p∈l,p.dot=d->p.time=t/\p.at_<wrF d t l n
 |[],_,_,_,_,p,h,_=>by cases h
 |x::r,n,hf,hn,h0,p,hp,e=>by
  have hx:=hf x (by simp)
  have b:∀q∈r,0<=q.at_:=λq hq=>hf q (by simp [hq])
  simp only [wrF] at h0⊢
  rcases zmc.1 hp with rfl|hp
  ·rw [zn (by simp [e])] at h0⊢
   split at h0
   ·omega
   ·rename_i a
    rw [zn a];refine ⟨by simpa using a, ?_⟩;rcases aiM (d:=d) (t:=t) (l:=r) (n:=max n (p.at_+1)) (by omega) b with q|q<;>omega
  ·split at h0
   ·rename_i a;rw [zp a];exact ajS b hn h0 p hp e
   ·rename_i a
    rw [zn a];split at h0
    ·omega
    ·rename_i c;rw [zn c];exact ajS b (by omega) h0 p hp e
def eI (l:List Pt) (w:Sp) (up:Nm):Prop:=up=Nm.zero\/∃u∈l,aG u=up/\(aN u=w\/gI (aN u) w=true)
theorem asV {c:Cl} {w:Sp} {up:Nm} (hn:named c.parts):fE c w up=0↔eI c.parts w up:=by
 constructor
 ·intro h
  by_cases h0:up=Nm.zero
  ·exact .inl h0
  ·obtain ⟨u,hu,e,a⟩:=avP h h0
   refine .inr ⟨u,hu,e, ?_⟩;by_cases b:aN u=w
   ·exact .inl b
   ·refine .inr ?_
    cases h4:gI (aN u) w
    ·exact absurd ⟨b,h4⟩ a
    ·rfl
 ·intro h
  unfold fE;by_cases h0:up=Nm.zero
  ·rw [zp h0]
  ·rw [zn h0]
   obtain ⟨u,hu,e,a⟩:=h.resolve_left h0;cases f:c.parts.findIdx? (λp=>decide (aG p=up)) with
   |none=>
    have:=List.findIdx?_eq_none_iff.1 f u hu;simp [e] at this
   |some i=>
    obtain ⟨hk,d,_⟩:=List.findIdx?_eq_some_iff_getElem.1 f;simp only [zgg hk];have g:c.parts[i]=u:=hn _ (zgm hk) _ hu ((of_decide_eq_true d).trans e.symm);rw [g,zn];rintro ⟨b,h4⟩;rcases a with a|a
    ·exact b a
    ·rw [h4] at a;cases a
theorem aBH {l m:List Pt} (h:l.Perm m) (w:Sp) (up:Nm):eI l w up↔eI m w up:=
 or_congr Iff.rfl ⟨λ⟨u,hu,q⟩=>⟨u,h.subset hu,q⟩,λ⟨u,hu,q⟩=>⟨u,h.symm.subset hu,q⟩⟩
theorem aJj {p:Pt} (h:bL p=true):mayN (aG p)=true:=by
 simp only [bL,zba] at h;exact h.1.2
theorem aIG {w:Sp} (hw:wOK w) {n:Int} (h0:0<=n) (a:n<=1999):mayN ⟨zN w,n⟩=true:=by
 have:=hw.2;show mayN ⟨⟨w.dev,w.seq⟩,n⟩=true;simp only [mayN,withinB,zba,zde] at this⊢;exact ⟨this.1,h0,a⟩
theorem asQ {l:List Pt} {w:Sp} {n:Int} {up:Nm} (b:UInt8) (d:Whole l) (hw:wOK w) (h0:0<=n) (y:n<=1999) (ha:∀p∈l,p.dot=zN w->p.time=w.time/\p.at_<n)
  (g:up=Nm.zero\/∃u∈l,aG u=up/\(aN u=w\/gI (aN u) w=true)):
  Whole (l++[⟨⟨1,(b.toNat:Int),e0⟩,⟨w.dev,w.seq⟩,n,w.time,up.dot,up.at_,false⟩]):=by
 have hb:=b.toNat_lt
 obtain ⟨x,hx⟩:∃x:Pt,(⟨⟨1,(b.toNat:Int),e0⟩,⟨w.dev,w.seq⟩,n,w.time,up.dot,up.at_,false⟩:Pt)=x:=⟨_,rfl⟩
 have i:aG x=⟨zN w,n⟩:=by rw [<-hx];rfl
 have j:aH x=up:=by rw [<-hx];rfl
 have h:x.dot=zN w:=by rw [<-hx];rfl
 have a:x.time=w.time:=by rw [<-hx]
 have t:aN x=w:=by rw [<-hx];rfl
 have s:x.at_=n:=by rw [<-hx]
 have v:x.val=⟨1,(b.toNat:Int),e0⟩:=by rw [<-hx]
 rw [hx]
 have r:up=Nm.zero\/mayN up=true:=g.imp id λ⟨u,hu,e,_⟩=>by rw [<-e];exact aJj (d.formed u hu)
 have o:bL x=true:=by
  unfold bL;rw [v,a,i,j,aIG hw h0 y,hw.1];have k:withinB (b.toNat:Int) 0 255=true:=by
   unfold withinB;rw [zba,zde,zde];omega
  rcases r with e|e
  ·simp [k,e]
  ·simp [k,e]
 refine ⟨⟨λp hp=> ?_, ?_,λp hp q hq e=> ?_⟩,λp hp=> ?_⟩
 ·rcases zma.1 hp with hp|hp
  ·exact d.formed p hp
  ·rw [zms.1 hp];exact o
 ·rw [List.map_append,List.nodup_append]
  refine ⟨d.nodup,by simp,λm hm z f e=> ?_⟩;obtain ⟨p,hp,rfl⟩:=List.mem_map.1 hm;rw [List.map_singleton,zms] at f;rw [f,i] at e;injection e with k e2
  have:=(ha p hp k).2;omega
 ·rcases zma.1 hp with hp|hp<;>rcases zma.1 hq with hq|hq
  ·exact d.times p hp q hq e
  ·rw [zms.1 hq] at e⊢;rw [a];exact (ha p hp (e.trans h)).1
  ·rw [zms.1 hp] at e⊢;rw [a];exact (ha q hq (e.symm.trans h)).1.symm
  ·rw [zms.1 hp,zms.1 hq]
 ·rcases zma.1 hp with hp|hp
  ·rcases d.up p hp with e|⟨u,hu,e⟩
   ·exact .inl e
   ·exact .inr ⟨u,List.mem_append_left _ hu,e⟩
  ·rw [zms.1 hp,j]
   rcases g with e|⟨u,hu,e,c⟩
   ·exact .inl e
   ·refine .inr ⟨u,List.mem_append_left _ hu,e, ?_⟩
    unfold dO;rw [t,s];rcases c with c|c
    ·have hd:u.dot=zN w:=by rw [<-c];rfl
     have:=(ha u hu hd).2;simp [c,this]
    ·rw [c];rfl
theorem acO {w:Sp}:∀(bs:List UInt8) {l:List Pt} {n:Int} {up:Nm},Whole l->wOK w->0<=n->n+bs.length<=2000->(∀p∈l,p.dot=zN w->p.time=w.time/\p.at_<n)->eI l w up->Whole (l++tyF w bs n up)
 |[],l,n,up,hW,_,_,_,_,_=>by rw [tyF,List.append_nil];exact hW
 |b::r,l,n,up,hW,hw,h0,h1,ha,hup=>by
  rw [zlc] at h1
  have a:=asQ b hW hw h0 (by omega) ha hup
  have:=acO r (n:=n+1) (up:=⟨⟨w.dev,w.seq⟩,n⟩) a hw (by omega) (by omega) (λp hp e=>by
   rcases zma.1 hp with hp|hp
   ·have:=ha p hp e;exact ⟨this.1,by omega⟩
   ·rw [zms.1 hp];exact ⟨rfl,by simp only;omega⟩) (.inr ⟨_,List.mem_append_right _ (zms.2 rfl),rfl, .inl rfl⟩)
  rw [List.append_assoc] at this
  exact this
open Classical in
theorem aCz {l:List Pt} (a:Whole l):∀p∈l,0<=p.at_:=λp hp=>(nO (a.formed p hp)).1
theorem apC (s:ByteArray):s.data.toList.length=s.size:=rfl
theorem Is.type {c:Cl} {l:List Pt} (h:Is c l) (s:ByteArray) (w:Sp) (up:Nm) (hl:l.length+s.size<=2000):
  ((wrL l w<0\/¬eI l w up\/200<s.size\/2000<wrL l w+s.size)/\(typeP c s w up).2≠0)\/
  (0<=wrL l w/\eI l w up/\¬(200<s.size\/2000<wrL l w+s.size))/\(typeP c s w up).2=0/\Is (typeP c s w up).1 (l++tyF w s.data.toList (wrL l w) up):=by
 have hp:=h.perm
 have e:Whole c.parts:=h.whole.perm' hp.symm
 have g:dJ c w=wrL l w:=by rw [asA,aCy hp]
 have f:fE c w up=0↔eI l w up:=by rw [asV e.named,aBH hp]
 have i:c.parts.length=l.length:=hp.length_eq
 unfold typeP
 rw [h.right,g,i]
 simp only [ne_eq,not_true_eq_false,if_false]
 by_cases a:wrL l w<0
 ·left;rw [zp a];exact ⟨.inl a,by simp⟩
 ·rw [zn a]
  by_cases d:200<s.size\/2000<l.length+s.size\/2000<wrL l w+s.size
  ·left;rw [zp d];exact ⟨by rcases d with q|q|q;exact .inr (.inr (.inl q));omega;exact .inr (.inr (.inr q)),by simp⟩
  ·rw [zn d]
   by_cases b:fE c w up=0
   ·right
    rw [zn (by simp [b])];have hb:=f.1 b;refine ⟨⟨by omega,hb,λq=>d (q.imp id .inr)⟩,rfl,h.kind,h.val, ?_, ?_, ?_⟩
    ·have hw:wOK w:=by
      apply Classical.byContradiction;intro q;unfold wrL at a;rw [zn q] at a;omega
     have j:wrL l w=wrF (zN w) w.time l 0:=by unfold wrL;rw [zp hw]
     refine acO _ h.whole hw (by omega) (by rw [apC];omega) ?_ hb;rw [j] at a⊢;exact ajS (aCz h.whole) (Int.le_refl 0) (by omega)
    ·rw [zla,abJ,apC];omega
    ·exact zG (hp.append_right _)
   ·left
    rw [zp b];exact ⟨.inr (.inl λq=>b (f.2 q)),b⟩
end
end Go.Proofs.YtfablfldonhkiaaGreatDoor.T
namespace Go.Proofs.YtfablfldonhkiaaGreatDoor
open Go Go.Abs
set_option maxRecDepth 10000
set_option maxHeartbeats 4000000
theorem rP {α:Type} (f:α->Bool) (a:α) (l:List α):afJ f (a::l)=if f a=true then 0 else afJ f l+1:=by
 unfold afJ;rw [List.findIdx?_cons];by_cases h:f a=true
 ·rw [zp h,zp h];rfl
 ·rw [zn h,zn (by simpa using h)]
  cases List.findIdx? f l<;>simp
theorem alE {α:Type} {l:List α} {k:Nat} {x y:α}:y∈l.take k++[x]++l.drop k↔y=x\/y∈l:=by
 rw [zma,zma,zms];have h:y∈l↔y∈l.take k\/y∈l.drop k:=by rw [<-zma,List.take_append_drop]
 rw [h];constructor
 ·rintro ((q|q)|q)
  ·exact .inr (.inl q)
  ·exact .inl q
  ·exact .inr (.inr q)
 ·rintro (q|q|q)
  ·exact .inl (.inr q)
  ·exact .inl (.inl q)
  ·exact .inr q
theorem asE {α:Type} {r:α->α->Prop} (e:∀a b c,r a b->r b c->r a c) {x:α} {f:α->Bool}:∀{l:List α},l.Pairwise r->(∀p∈l,f p=false->r p x)->(∀p∈l,f p=true->r x p)->(l.take (afJ f l)++[x]++l.drop (afJ f l)).Pairwise r
 |[],_,_,_=>by simp
 |a::l,h,h1,h2=>by
  obtain ⟨ha,hl⟩:=List.pairwise_cons.1 h
  rw [rP]
  by_cases hf:f a=true
  ·rw [zp hf]
   have d:=h2 a (by simp) hf;show (x::a::l).Pairwise r;refine List.pairwise_cons.2 ⟨λy hy=> ?_,h⟩;rcases zmc.1 hy with rfl|hy
   ·exact d
   ·exact e _ _ _ d (ha y hy)
  ·rw [zn hf,List.take_succ_cons,List.drop_succ_cons,List.cons_append,List.cons_append]
   refine List.pairwise_cons.2 ⟨λy hy=> ?_,asE e hl (λp hp=>h1 p (List.mem_cons_of_mem _ hp)) (λp hp=>h2 p (List.mem_cons_of_mem _ hp))⟩;rcases alE.1 hy with rfl|hy
   ·exact h1 a (by simp) (by simpa using hf)
   ·exact ha y hy
theorem ahE {l:List Pt} {k:Nat} {x y:Pt}:y∈dS l k [x]↔y=x\/y∈l:=alE
theorem avY {ok:Pt->Bool} {bh:Pt->Pt->Bool} (m:∀{a b c},bh b a=true->bh c b=true->bh c a=true) {l:List Pt}:aaN ok bh l=true↔(∀p∈l,ok p=true)/\l.Pairwise λa b=>bh b a=true:=by
 constructor
 ·intro h
  have hj:∀j (hj:j<l.length),ok l[j]=true/\(j=0\/bh l[j] (l[j-1]'(by omega))=true):=λj hj=>by
   unfold aaN at h
   rw [zal] at h
   have:=h j (List.mem_range.2 hj)
   rw [getElem!_pos l j hj,getElem!_pos l (j-1) (by omega),zba,Bool.or_eq_true,zde] at this
   exact this
  refine ⟨λp hp=>by obtain ⟨j,e,rfl⟩:=zgo hp;exact (hj j e).1,List.pairwise_iff_getElem.2 λi j hi e k=> ?_⟩;have key:∀d,∀h:i+d+1<l.length,bh l[i+d+1] l[i]=true:=λd=>by
   induction d with
   |zero=>intro h;exact (hj (i+1) h).2.resolve_left (by omega)
   |succ d ih=>
    intro h;have f:=ih (by omega);have g:=(hj (i+(d+1)+1) h).2.resolve_left (by omega);exact m f g
  have:=key (j-i-1) (by omega);simp only [show i+(j-i-1)+1=j by omega] at this;exact this
 ·rintro ⟨f,g⟩
  refine akE λj hj=> ?_;rw [f _ (zgm hj),Bool.true_and];rcases Nat.eq_zero_or_pos j with rfl|h0
  ·rfl
  ·rw [List.pairwise_iff_getElem.1 g (j-1) j (by omega) hj (by omega),Bool.or_true]
theorem uF {c:Cl}:mT c=true↔(c.kind=1/\c.val=Vl.zero)/\(∀p∈c.parts,jY p=true)/\c.parts.Pairwise λa b=>bE b.dot a.dot=true:=by
 unfold mT;rw [zba,zde,avY (bh:=λp q=>bE p.dot q.dot) λd e=>qX d e]
theorem akF {p q:Pt}:eI p q=true↔p.val.n>q.val.n\/p.val.n=q.val.n/\bE p.dot q.dot=true:=by
 unfold eI;rw [Bool.or_eq_true,zba,zde,zde]
theorem aBT {a b c:Pt} (d:eI b a=true) (e:eI c b=true):eI c a=true:=by
 rw [akF] at*;rcases d with d|⟨e1,d⟩<;>rcases e with e|⟨f,e⟩
 ·exact .inl (by omega)
 ·exact .inl (by omega)
 ·exact .inl (by omega)
 ·exact .inr ⟨by omega,qX d e⟩
theorem aGm {a b:Pt} (h:eI a b=false) (c:¬(a.val.n=b.val.n/\a.dot=b.dot)):eI b a=true:=by
 rw [<-Bool.not_eq_true,akF] at h;rw [akF];rcases Int.lt_trichotomy a.val.n b.val.n with q|q|q
 ·exact .inl q
 ·refine .inr ⟨q.symm, ?_⟩
  refine yS ?_ λe=>c ⟨q,e⟩;rw [<-Bool.not_eq_true];exact λw=>h (.inr ⟨q,w⟩)
 ·exact absurd (.inl q) h
theorem kU {c:Cl}:kG c=true↔(c.kind=3/\c.val=Vl.zero)/\(∀p∈c.parts,jZ p=true)/\c.parts.Pairwise λa b=>eI b a=true:=by
 unfold kG;rw [zba,zde,avY (bh:=eI) λd e=>aBT d e]
theorem aA2 {v:Vl} {d:Dt} (hv:cF v=true) (hd:fM d=true):jY (ptN v d)=true:=by
 unfold jY;rw [show (ptN v d).val=v from rfl,show (ptN v d).dot=d from rfl,hv,hd];have:mK (ptN v d):=⟨rfl,rfl,rfl,rfl,rfl⟩;simp only [decide_eq_true this];rfl
theorem aBr {n:Int} {d:Dt} (hv:cF (nV n)=true) (hd:fM d=true):jZ (ptN (nV n) d)=true:=by
 unfold jZ;rw [show (ptN (nV n) d).val=nV n from rfl,show (ptN (nV n) d).dot=d from rfl,hv,hd];have:mK (ptN (nV n) d):=⟨rfl,rfl,rfl,rfl,rfl⟩;simp only [decide_eq_true this];rfl
theorem wT {c:Cl} {v:Vl} {d:Dt} {kn:List Int} (h:mT c=true) (hv:cF v=true) (hd:fM d=true):mT (iQ c v d kn)=true:=by
 obtain ⟨h0,e,f⟩:=uF.1 h;refine uF.2 ⟨h0,λp hp=> ?_,asE (r:=λa b:Pt=>bE b.dot a.dot=true) (λ_ _ _ e f=>qX e f) (f.filter _) (λp hp hf=> ?_) λp hp hf=> ?_⟩
 ·rcases ahE.1 hp with rfl|hp
  ·exact aA2 hv hd
  ·exact e p ((List.mem_filter.1 hp).1)
 ·have hk:=(List.mem_filter.1 hp).2
  unfold sX at hk;rw [zba,zde] at hk;exact yS hf hk.1
 ·exact hf
theorem acK {c:Cl} {n:Int} {d:Dt} (h:kG c=true) (hv:cF (nV n)=true) (hd:fM d=true):kG (oL c n d)=true:=by
 unfold oL;split
 ·exact h
 ·rename_i hs
  obtain ⟨h0,e,f⟩:=kU.1 h;refine kU.2 ⟨h0,λp hp=> ?_,asE (r:=λa b:Pt=>eI b a=true) (λ_ _ _ e f=>aBT e f) f (λp hp hf=>aGm hf ?_) λp hp hf=>hf⟩
  ·rcases ahE.1 hp with rfl|hp
   ·exact aBr hv hd
   ·exact e p hp
  ·rintro ⟨g,i⟩
   apply hs;rw [List.any_eq_true];refine ⟨p,hp, ?_⟩;unfold sW;rw [decide_eq_true (show p.val.n=n from g),decide_eq_true (show p.dot=d from i)];rfl
theorem alM {c:Cl} {n:Int} {d:Dt} {kn:List Int} (h:kG c=true):kG (tF c n d kn)=true:=by
 obtain ⟨h0,a,b⟩:=kU.1 h;exact kU.2 ⟨h0,λp hp=>a p ((List.mem_filter.1 hp).1),b.filter _⟩
theorem aeB {c:Cl} {n:Int} (h:(vC c n).2=0):(vC c n).1.kind=2/\bU (vC c n).1=0/\(vC c n).1.parts=[]:=by
 unfold vC at*;split at h
 ·rename_i q;exact absurd h q
 ·rename_i q;rw [zn q]
  split at h
  ·rename_i b;exact absurd h b
  ·rename_i b;rw [zn b]
   split at h
   ·rename_i a;exact absurd h a
   ·rename_i a;rw [zn a]
    exact ⟨rfl,zdn a,rfl⟩
theorem abQ {c:Cl} {s:ByteArray} {w:T.Sp} {up:T.Nm} (h:T.rightP c=0) (h0:(T.typeP c s w up).2=0):T.rightP (T.typeP c s w up).1=0:=by
 have hl:c.parts.length+s.size<=2000:=by
  apply Classical.byContradiction;intro q;unfold T.typeP at h0;rw [zn (by simp [h])] at h0;split at h0
  ·simp at h0
  ·rw [zp (.inr (.inl (by omega)))] at h0
   simp at h0
 rcases (T.Is.of h).type s w up hl with ⟨_,q⟩|⟨_,_,q⟩
 ·exact absurd h0 q
 ·exact q.right
theorem jX {c:Cl} (h:T.rightP c=0):c.kind=4:=by
 unfold T.rightP at h;split at h
 ·cases h
 ·rename_i q;exact zdn q
theorem cI {c:Cl}:jM T.rightP c=true↔(c.kind=0/\cF c.val=true/\c.parts=[])\/(c.kind=1/\mT c=true)\/(c.kind=2/\bU c=0)\/(c.kind=3/\kG c=true)\/(c.kind=4/\T.rightP c=0):=by
 unfold jM;by_cases h0:c.kind=0
 ·rw [zp h0,zba,zde]
  constructor
  ·rintro ⟨a,b⟩;exact .inl ⟨h0,a,List.eq_nil_of_length_eq_zero b⟩
  ·rintro (⟨_,a,b⟩|⟨k,_⟩|⟨k,_⟩|⟨k,_⟩|⟨k,_⟩)
   ·exact ⟨a,by rw [b];rfl⟩
   all_goals omega
 rw [zn h0];by_cases d:c.kind=1
 ·rw [zp d]
  constructor
  ·exact λa=> .inr (.inl ⟨d,a⟩)
  ·rintro (⟨k,_⟩|⟨_,a⟩|⟨k,_⟩|⟨k,_⟩|⟨k,_⟩)
   ·omega
   ·exact a
   all_goals omega
 rw [zn d];by_cases e:c.kind=2
 ·rw [zp e,zde]
  constructor
  ·exact λa=> .inr (.inr (.inl ⟨e,a⟩))
  ·rintro (⟨k,_⟩|⟨k,_⟩|⟨_,a⟩|⟨k,_⟩|⟨k,_⟩)
   ·omega
   ·omega
   ·exact a
   all_goals omega
 rw [zn e];by_cases f:c.kind=3
 ·rw [zp f]
  constructor
  ·exact λa=> .inr (.inr (.inr (.inl ⟨f,a⟩)))
  ·rintro (⟨k,_⟩|⟨k,_⟩|⟨k,_⟩|⟨_,a⟩|⟨k,_⟩)
   ·omega
   ·omega
   ·omega
   ·exact a
   ·omega
 rw [zn f];by_cases h4:c.kind=4
 ·rw [zp h4,zde]
  constructor
  ·exact λa=> .inr (.inr (.inr (.inr ⟨h4,a⟩)))
  ·rintro (⟨k,_⟩|⟨k,_⟩|⟨k,_⟩|⟨k,_⟩|⟨_,a⟩)
   ·omega
   ·omega
   ·omega
   ·omega
   ·exact a
 ·rw [zn h4]
  simp [h0,d,e,f,h4]
theorem aqB {v:Vl} (h:cF v=true) (hk:v.kind=1):cF (nV v.n)=true:=by
 unfold cF at*;rw [zn (by omega),zp hk] at h;rw [zn (by simp [nV]),zp (show (nV v.n).kind=1 from rfl)];simp only [zba,zde] at*;exact ⟨⟨rfl,h.1.2⟩,h.2⟩
theorem rB {w:Wr} (h:pW w=true):fM w.dot=true:=by
 unfold pW T.withinB at h;unfold fM Wr.dot;simp only [zba,zde] at*;omega
theorem aHp {w:Wr} {c:Cl} {o:Ot} {p:Co} (hw:pW w=true) (hc:jM T.rightP c=true) (hf:ahX o.kind c.kind=true) (hv:sP p o=0) (h0:(eT w c o).2=0):jM T.rightP (eT w c o).1=true/\(eT w c o).1.kind=c.kind:=by
 have hd:=rB hw;have d:cF o.val=true:=by
  unfold sP at hv;split at hv
  ·cases hv
  ·rename_i q
   cases e:cF o.val with
   |true=>rfl
   |false=>exact absurd (.inr e) q
 have hn:o.kind≠2->o.kind≠6->o.kind≠7->cF (nV o.val.n)=true:=λa b e=>by
  apply aqB d
  unfold sP at hv
  split at hv
  ·cases hv
  ·split at hv
   ·rename_i q;exact absurd q.1 a
   split at hv
   ·cases hv
   split at hv
   ·cases hv
   ·rename_i q;exact Classical.byContradiction λz=>q ⟨a,b,z⟩
 unfold eT at*;unfold ahX at hf;by_cases k2:o.kind=2
 ·rw [zp k2] at hf h0⊢
  rw [zde] at hf;by_cases c0:c.kind=0
  ·rw [zp c0]
   exact ⟨cI.2 (.inl ⟨rfl,d,rfl⟩),c0.symm⟩
  ·rw [zn c0]
   have c1:c.kind=1:=hf.resolve_left c0;rcases cI.1 hc with q|q|q|q|q
   ·exact absurd q.1 c0
   ·exact ⟨cI.2 (.inr (.inl ⟨c1,wT q.2 d hd⟩)),rfl⟩
   all_goals omega
 rw [zn k2] at hf h0⊢;by_cases k:o.kind=3
 ·rw [zp k] at hf h0⊢
  rw [zde] at hf;obtain ⟨i,m,r⟩:=aeB h0;exact ⟨cI.2 (.inr (.inr (.inl ⟨i,m⟩))),by rw [i,hf]⟩
 rw [zn k] at hf h0⊢;by_cases g:o.kind=4
 ·rw [zp (.inl g),zde] at hf
  rw [zp g] at h0⊢;rcases cI.1 hc with q|q|q|q|q
  ·omega
  ·omega
  ·omega
  ·have hk:(oL c o.val.n w.dot).kind=c.kind:=by unfold oL;split<;>rfl
   exact ⟨cI.2 (.inr (.inr (.inr (.inl ⟨by rw [hk,hf],acK q.2 (hn k2 (by omega) (by omega)) hd⟩)))),hk⟩
  ·omega
 rw [zn g] at h0⊢;by_cases h:o.kind=5
 ·rw [zp (.inr h),zde] at hf
  rw [zp h] at h0⊢;rcases cI.1 hc with q|q|q|q|q
  ·omega
  ·omega
  ·omega
  ·exact ⟨cI.2 (.inr (.inr (.inr (.inl ⟨hf,alM q.2⟩)))),rfl⟩
  ·omega
 rw [zn (by omega)] at hf;rw [zn h] at h0⊢;have f:(o.kind=6\/o.kind=7)/\c.kind=4:=by
  split at hf
  ·rename_i q;exact ⟨q,by simpa using hf⟩
  ·cases hf
 have j:T.rightP c=0:=by
  rcases cI.1 hc with q|q|q|q|q
  ·omega
  ·omega
  ·omega
  ·omega
  ·exact q.2
 by_cases l:o.kind=6
 ·rw [zp l] at h0⊢
  have:=abQ j h0;exact ⟨cI.2 (.inr (.inr (.inr (.inr ⟨jX this,this⟩)))),by rw [jX this,f.2]⟩
 ·rw [zn l]
  have:=T.right_erase ⟨o.after,o.at_⟩ j;exact ⟨cI.2 (.inr (.inr (.inr (.inr ⟨jX this,this⟩)))),rfl⟩
theorem aEs :T.rightP ⟨4,Vl.zero,[]⟩=0:=by kernel_rfl
theorem aCe {w:Wr} {c:Co} {v:Vl} (hw:pW w=true) (hk:0<=c.kind/\c.kind<=4) (hv:uL c v=0) (h0:(lF w c.kind v).2=0):jM T.rightP (lF w c.kind v).1=true/\(lF w c.kind v).1.kind=c.kind:=by
 have hd:=rB hw;unfold uL at hv;split at hv
 ·cases hv
 rename_i l;have a:cF v=true:=by simpa using l
 split at hv
 ·cases hv
 rename_i p;split at hv
 ·cases hv
 rename_i m;unfold lF at*;by_cases c0:c.kind=0
 ·rw [zp c0]
  exact ⟨cI.2 (.inl ⟨rfl,a,rfl⟩),c0.symm⟩
 rw [zn c0] at h0⊢;by_cases c2:c.kind=2
 ·rw [zp c2] at h0⊢
  obtain ⟨h,k,o⟩:=aeB h0;exact ⟨cI.2 (.inr (.inr (.inl ⟨h,k⟩))),by rw [h,c2]⟩
 rw [zn c2] at h0⊢;by_cases d:c.kind=4
 ·rw [zp d] at h0⊢
  have:=abQ aEs h0;exact ⟨cI.2 (.inr (.inr (.inr (.inr ⟨jX this,this⟩)))),by rw [jX this,d]⟩
 rw [zn d] at h0⊢;have f:c.kind=1\/c.kind=3:=by omega
 have j:c.kind=1->mT ⟨c.kind,Vl.zero,[]⟩=true:=λe=>uF.2 ⟨⟨e,rfl⟩,by simp,List.Pairwise.nil⟩;have i:c.kind=3->kG ⟨c.kind,Vl.zero,[]⟩=true:=λe=>kU.2 ⟨⟨e,rfl⟩,by simp,List.Pairwise.nil⟩;by_cases v0:v.kind=0
 ·rw [zp v0]
  rcases f with e|e
  ·exact ⟨cI.2 (.inr (.inl ⟨e,j e⟩)),rfl⟩
  ·exact ⟨cI.2 (.inr (.inr (.inr (.inl ⟨e,i e⟩)))),rfl⟩
 rw [zn v0] at h0⊢;by_cases b:c.kind=3
 ·rw [zp b]
  have g:v.kind=1:=by
   have:v.kind=eB c:=Classical.byContradiction λz=>m ⟨v0,z⟩;rw [this];unfold eB;rw [zn (by omega),zp (.inr b)]
  have hk:(oL ⟨c.kind,Vl.zero,[]⟩ v.n w.dot).kind=c.kind:=by unfold oL;split<;>rfl
  exact ⟨cI.2 (.inr (.inr (.inr (.inl ⟨by rw [hk,b],acK (i b) (aqB a g) hd⟩)))),hk⟩
 ·rw [zn b]
  have c1:c.kind=1:=by omega
  exact ⟨cI.2 (.inr (.inl ⟨c1,wT (j c1) a hd⟩)),rfl⟩
end Go.Proofs.YtfablfldonhkiaaGreatDoor
