import Derived.Test.YtfablfldonhkiaaGreatDoorClAl
import Derived.Test.YtfablfldonhkiaaGreatDoorClAo
set_option linter.unusedSimpArgs false
set_option linter.unusedVariables false
namespace Go.Proofs.YtfablfldonhkiaaGreatDoor.T
open Go Go.Abs
section
set_option maxRecDepth 10000
set_option maxHeartbeats 4000000
structure Keeps (g:Pt->Pt):Prop where
 val:∀p,(g p).val=p.val
 dot:∀p,(g p).dot=p.dot
 at_:∀p,(g p).at_=p.at_
 time:∀p,(g p).time=p.time
 after:∀p,(g p).after=p.after
 afterAt:∀p,(g p).afterAt=p.afterAt
theorem Keeps.name {g:Pt->Pt} (hg:Keeps g) (p:Pt):aH (g p)=aH p:=by unfold aH;rw [hg.dot,hg.at_]
theorem Keeps.parent {g:Pt->Pt} (hg:Keeps g) (p:Pt):aZ (g p)=aZ p:=by unfold aZ;rw [hg.after,hg.afterAt]
theorem Keeps.stamp {g:Pt->Pt} (hg:Keeps g) (p:Pt):bJ (g p)=bJ p:=by unfold bJ;rw [hg.dot,hg.time]
theorem Keeps.formed {g:Pt->Pt} (hg:Keeps g) (p:Pt):bV (g p)=bV p:=by unfold bV;rw [hg.val,hg.time,hg.name,hg.parent]
theorem Keeps.ahead {g:Pt->Pt} (hg:Keeps g) (a b:Pt):eI (g a) (g b)=eI a b:=by unfold eI;rw [hg.stamp,hg.stamp,hg.at_,hg.at_]
theorem Keeps.names {g:Pt->Pt} (hg:Keeps g) (l:List Pt):(l.map g).map aH=l.map aH:=by
 rw [List.map_map];exact List.map_congr_left λp _=>hg.name p
theorem Keeps.whole {g:Pt->Pt} (hg:Keeps g) (l:List Pt):Whole (l.map g)↔Whole l:=by
 constructor
 ·intro h
  refine ⟨⟨λp hp=> ?_, ?_,λp hp q hq e=> ?_⟩,λp hp=> ?_⟩
  ·rw [<-hg.formed];exact h.formed _ (List.mem_map_of_mem hp)
  ·rw [<-hg.names];exact h.nodup
  ·rw [<-hg.time p,<-hg.time q];exact h.times _ (List.mem_map_of_mem hp) _ (List.mem_map_of_mem hq) (by rw [hg.dot,hg.dot,e])
  ·rcases h.up _ (List.mem_map_of_mem hp) with e|⟨u',hu',e1,e2⟩
   ·left;rw [<-hg.parent];exact e
   ·obtain ⟨u,hu,rfl⟩:=List.mem_map.1 hu'
    right;exact ⟨u,hu,by rw [<-hg.name,e1,hg.parent],by rw [<-hg.ahead u p];exact e2⟩
 ·intro h
  refine ⟨⟨λp' hp'=> ?_, ?_,λp' hp' q' hq' e=> ?_⟩,λp' hp'=> ?_⟩
  ·obtain ⟨p,hp,rfl⟩:=List.mem_map.1 hp';rw [hg.formed];exact h.formed p hp
  ·rw [hg.names];exact h.nodup
  ·obtain ⟨p,hp,rfl⟩:=List.mem_map.1 hp'
   obtain ⟨q,hq,rfl⟩:=List.mem_map.1 hq'
   rw [hg.time,hg.time];exact h.times p hp q hq (by rw [hg.dot,hg.dot] at e;exact e)
  ·obtain ⟨p,hp,rfl⟩:=List.mem_map.1 hp'
   rcases h.up p hp with e|⟨u,hu,e1,e2⟩
   ·left;rw [hg.parent];exact e
   ·right;exact ⟨g u,List.mem_map_of_mem hu,by rw [hg.name,e1,hg.parent],by rw [hg.ahead];exact e2⟩
theorem Keeps.anc {g:Pt->Pt} (hg:Keeps g) {l:List Pt} {p:Pt} {s:List Pt} (h:Anc l p s):Anc (l.map g) (g p) (s.map g):=by
 induction h with
 |root hp h0=>exact .root (List.mem_map_of_mem hp) (by rw [hg.parent];exact h0)
 |step hp hu e h0 _ ih=>rw [List.map_append];exact .step (List.mem_map_of_mem hp) (List.mem_map_of_mem hu) (by rw [hg.name,hg.parent];exact e) (by rw [hg.parent];exact h0) ih
theorem Keeps.lex {g:Pt->Pt} (hg:Keeps g):∀{s t:List Pt},qR s t->qR (s.map g) (t.map g)
 |_,[],h=>by cases ‹List Pt› <;>exact h.elim
 |[],_::_,_=>trivial
 |a::s,b::t,h=>by
  rcases h with ⟨rfl,h⟩|h
  ·exact .inl ⟨rfl,hg.lex h⟩
  ·refine .inr ?_
   rw [eT,hg.time,hg.time,hg.dot,hg.dot,hg.at_,hg.at_,<-eT];exact h
theorem Keeps.order {g:Pt->Pt} (hg:Keeps g) (l:List Pt):dE (l.map g)=(dE l).map g:=by
 by_cases hW:Whole l/\l.length<=2000
 ·obtain ⟨h1,h2⟩:=gN hW.1 hW.2
  refine yC ((hg.whole l).2 hW.1) (by rw [zql];exact hW.2) (h1.map g) ?_
  rw [List.pairwise_map]
  exact h2.imp λ⟨s,t,a,b,c⟩=>⟨_,_,hg.anc a,hg.anc b,hg.lex c⟩
 ·rw [kL hW,kL (by rw [hg.whole,zql];exact hW)];rfl
def gE (k:Nm) (p:Pt):Pt:=if aH p=k then agD p else p
theorem aiY (k:Nm):Keeps (gE k):=by
 constructor<;>intro p<;>unfold gE agD<;>split<;>rfl
theorem eraseP_len (k:Nm) (c:Cl):(eraseP c k).parts.length=c.parts.length:=zql _
theorem ajA {c:Cl} (h1:c.kind=4) (h2:c.val=Vl.zero) (hW:Whole c.parts) (hl:c.parts.length<=2000) (ho:dE c.parts=c.parts):rightP c=0:=by
 unfold rightP
 rw [zn (by simp [h1]),zn (by simp [h2,(fW _).2 hW]),zn (by omega),zn (by simp [ho])]
theorem right_erase {c:Cl} (k:Nm) (h:rightP c=0):rightP (eraseP c k)=0:=by
 obtain ⟨h1,h2,hW,hl,ho⟩:=jS h
 refine ajA h1 h2 (((aiY k).whole _).2 hW) (by rw [eraseP_len];exact hl) ?_
 show dE (c.parts.map (gE k))=c.parts.map (gE k)
 rw [(aiY k).order,ho]
theorem atI {c:Cl} {w:Sp} {up:Nm} (h:eQ c w up=0) (h0:up≠Nm.zero):∃u∈c.parts,aH u=up/\¬(bJ u≠w/\jP (bJ u) w=false):=by
 unfold eQ at h
 rw [zn h0] at h
 cases hI:c.parts.findIdx? (λp=>decide (aH p=up)) with
 |none=>rw [hI] at h;cases h
 |some i=>
  rw [hI] at h
  obtain ⟨hk,hk1,_⟩:=List.findIdx?_eq_some_iff_getElem.1 hI
  simp only [zgg hk] at h
  refine ⟨c.parts[i],zgm hk,of_decide_eq_true hk1,λq=> ?_⟩
  rw [zp q] at h;cases h
theorem type_len (c:Cl) (s:ByteArray) (w:Sp) (up:Nm):(typeP c s w up).1.parts.length<=c.parts.length+s.size:=by
 unfold typeP
 split
 ·exact Nat.zero_le _
 ·split
  ·exact Nat.zero_le _
  ·split
   ·exact Nat.zero_le _
   ·split
    ·exact Nat.zero_le _
    ·refine Nat.le_trans (afH _) ?_
     rw [zla,zI];exact Nat.le_refl _
end
section
set_option maxRecDepth 10000
set_option maxHeartbeats 4000000
structure Is (c:Cl) (l:List Pt):Prop where
 kind:c.kind=4
 val:c.val=Vl.zero
 whole:Whole l
 len:l.length<=2000
 parts:c.parts=dE l
theorem Is.perm {c:Cl} {l:List Pt} (h:Is c l):c.parts.Perm l:=by rw [h.parts];exact (gN h.whole h.len).1
theorem Is.of {c:Cl} (h:rightP c=0):Is c c.parts:=by
 obtain ⟨h1,h2,hW,hl,ho⟩:=jS h
 exact ⟨h1,h2,hW,hl,ho.symm⟩
theorem Whole.perm' {l m:List Pt} (hp:l.Perm m) (h:Whole l):Whole m:=h.perm hp
theorem Is.right {c:Cl} {l:List Pt} (h:Is c l):rightP c=0:=by
 refine ajA h.kind h.val (h.whole.perm' h.perm.symm) (by rw [h.perm.length_eq];exact h.len) ?_
 rw [xT h.perm];exact h.parts.symm
def yA (w:Sp):Dt:=⟨w.dev,w.seq⟩
def wOK (w:Sp):Prop:=withinB w.time 1 1125899906842624=true/\mayN ⟨⟨w.dev,w.seq⟩,0⟩=true
instance (w :Sp):Decidable (wOK w):=inferInstanceAs (Decidable (_/\_))
def wrL (l:List Pt) (w:Sp):Int:=if wOK w then wrF (yA w) w.time l 0 else-1
theorem aoX (c:Cl) (w:Sp):dB c w=wrL c.parts w:=rfl
theorem aCy {d:Dt} {t:Int} {l m:List Pt} (h:l.Perm m):∀n,wrF d t l n=wrF d t m n:=by
 induction h with
 |nil=>intro n;rfl
 |cons x _ ih=>intro n;simp only [wrF,ih]
 |swap x y l=>
  intro n
  simp only [wrF]
  by_cases h1:x.dot=d
  ·by_cases h2:y.dot=d
   ·simp only [h1,h2,ne_eq,not_true_eq_false,if_false]
    by_cases h3:x.time=t
    ·by_cases h4:y.time=t
     ·simp only [h3,h4,not_true_eq_false,if_false];congr 1;omega
     ·simp only [h3,h4,not_true_eq_false,not_false_eq_true,if_false,if_true]
    ·by_cases h4:y.time=t
     ·simp only [h3,h4,not_true_eq_false,not_false_eq_true,if_false,if_true]
     ·simp only [h3,h4,not_false_eq_true,if_true]
   ·simp only [h1,h2,ne_eq,not_true_eq_false,not_false_eq_true,if_false,if_true]
  ·simp only [h1,ne_eq,not_false_eq_true,if_true]
 |trans _ _ ih1 ih2=>intro n;rw [ih1,ih2]
theorem aBr {l m:List Pt} (h:l.Perm m) (w:Sp):wrL l w=wrL m w:=by unfold wrL;rw [aCy h]
theorem agH {d:Dt} {t:Int}:∀{l:List Pt} {n:Int},0<=n->(∀p∈l,0<=p.at_)->wrF d t l n= -1\/n<=wrF d t l n
 |[],n,_,_=> .inr (Int.le_refl _)
 |p::r,n,h,hf=>by
  have hp:=hf p (by simp)
  have hr:∀q∈r,0<=q.at_:=λq hq=>hf q (by simp [hq])
  simp only [wrF]
  split
  ·exact agH h hr
  ·split
   ·exact .inl rfl
   ·rcases agH (d:=d) (t:=t) (n:=max n (p.at_+1)) (by omega) hr with e|e
    ·exact .inl e
    ·exact .inr (by omega)
theorem ahK {d:Dt} {t:Int}:∀{l:List Pt} {n:Int},(∀p∈l,0<=p.at_)->0<=n->0<=wrF d t l n->∀p∈l,p.dot=d->p.time=t/\p.at_<wrF d t l n
 |[],_,_,_,_,p,h,_=>by cases h
 |x::r,n,hf,hn,h0,p,hp,e=>by
  have hx:=hf x (by simp)
  have hr:∀q∈r,0<=q.at_:=λq hq=>hf q (by simp [hq])
  simp only [wrF] at h0⊢
  rcases zmc.1 hp with rfl|hp
  ·rw [zn (by simp [e])] at h0⊢
   split at h0
   ·omega
   ·rename_i e2
    rw [zn e2]
    refine ⟨by simpa using e2, ?_⟩
    rcases agH (d:=d) (t:=t) (l:=r) (n:=max n (p.at_+1)) (by omega) hr with q|q<;>omega
  ·split at h0
   ·rename_i e2;rw [zp e2];exact ahK hr hn h0 p hp e
   ·rename_i e2
    rw [zn e2]
    split at h0
    ·omega
    ·rename_i e3;rw [zn e3];exact ahK hr (by omega) h0 p hp e
def dY (l:List Pt) (w:Sp) (up:Nm):Prop:=up=Nm.zero\/∃u∈l,aH u=up/\(bJ u=w\/jP (bJ u) w=true)
theorem aqK {c:Cl} {w:Sp} {up:Nm} (hn:named c.parts):eQ c w up=0↔dY c.parts w up:=by
 constructor
 ·intro h
  by_cases h0:up=Nm.zero
  ·exact .inl h0
  ·obtain ⟨u,hu,e,h2⟩:=atI h h0
   refine .inr ⟨u,hu,e, ?_⟩
   by_cases h3:bJ u=w
   ·exact .inl h3
   ·refine .inr ?_
    cases h4:jP (bJ u) w
    ·exact absurd ⟨h3,h4⟩ h2
    ·rfl
 ·intro h
  unfold eQ
  by_cases h0:up=Nm.zero
  ·rw [zp h0]
  ·rw [zn h0]
   obtain ⟨u,hu,e,h2⟩:=h.resolve_left h0
   cases hI:c.parts.findIdx? (λp=>decide (aH p=up)) with
   |none=>
    have:=List.findIdx?_eq_none_iff.1 hI u hu
    simp [e] at this
   |some i=>
    obtain ⟨hk,hk1,_⟩:=List.findIdx?_eq_some_iff_getElem.1 hI
    simp only [zgg hk]
    have e2:c.parts[i]=u:=hn _ (zgm hk) _ hu ((of_decide_eq_true hk1).trans e.symm)
    rw [e2,zn]
    rintro ⟨h3,h4⟩
    rcases h2 with h2|h2
    ·exact h3 h2
    ·rw [h4] at h2;cases h2
theorem aAB {l m:List Pt} (h:l.Perm m) (w:Sp) (up:Nm):dY l w up↔dY m w up:=
 or_congr Iff.rfl ⟨λ⟨u,hu,q⟩=>⟨u,h.subset hu,q⟩,λ⟨u,hu,q⟩=>⟨u,h.symm.subset hu,q⟩⟩
theorem aHH {p:Pt} (h:bV p=true):mayN (aH p)=true:=by
 simp only [bV,zba] at h;exact h.1.2
theorem aHi {w:Sp} (hw:wOK w) {n:Int} (h0:0<=n) (h1:n<=1999):mayN ⟨yA w,n⟩=true:=by
 have:=hw.2
 show mayN ⟨⟨w.dev,w.seq⟩,n⟩=true
 simp only [mayN,withinB,zba,zde] at this⊢
 exact ⟨this.1,h0,h1⟩
theorem aqD {l:List Pt} {w:Sp} {n:Int} {up:Nm} (b:UInt8) (hW:Whole l) (hw:wOK w) (h0:0<=n) (h1:n<=1999) (ha:∀p∈l,p.dot=yA w->p.time=w.time/\p.at_<n)
  (hup:up=Nm.zero\/∃u∈l,aH u=up/\(bJ u=w\/jP (bJ u) w=true)):
  Whole (l++[⟨⟨1,(b.toNat:Int),e0⟩,⟨w.dev,w.seq⟩,n,w.time,up.dot,up.at_,false⟩]):=by
 have hb:=b.toNat_lt
 obtain ⟨x,hx⟩:∃x:Pt,(⟨⟨1,(b.toNat:Int),e0⟩,⟨w.dev,w.seq⟩,n,w.time,up.dot,up.at_,false⟩:Pt)=x:=⟨_,rfl⟩
 have hxn:aH x=⟨yA w,n⟩:=by rw [<-hx];rfl
 have hxp:aZ x=up:=by rw [<-hx];rfl
 have hxd:x.dot=yA w:=by rw [<-hx];rfl
 have hxt:x.time=w.time:=by rw [<-hx]
 have hxs:bJ x=w:=by rw [<-hx];rfl
 have hxa:x.at_=n:=by rw [<-hx]
 have hxv:x.val=⟨1,(b.toNat:Int),e0⟩:=by rw [<-hx]
 rw [hx]
 have hmu:up=Nm.zero\/mayN up=true:=hup.imp id λ⟨u,hu,e,_⟩=>by rw [<-e];exact aHH (hW.formed u hu)
 have hfx:bV x=true:=by
  unfold bV
  rw [hxv,hxt,hxn,hxp,aHi hw h0 h1,hw.1]
  have e1:withinB (b.toNat:Int) 0 255=true:=by
   unfold withinB;rw [zba,zde,zde];omega
  rcases hmu with e|e
  ·simp [e1,e]
  ·simp [e1,e]
 refine ⟨⟨λp hp=> ?_, ?_,λp hp q hq e=> ?_⟩,λp hp=> ?_⟩
 ·rcases zma.1 hp with hp|hp
  ·exact hW.formed p hp
  ·rw [zms.1 hp];exact hfx
 ·rw [List.map_append,List.nodup_append]
  refine ⟨hW.nodup,by simp,λm hm m' hm' e=> ?_⟩
  obtain ⟨p,hp,rfl⟩:=List.mem_map.1 hm
  rw [List.map_singleton,zms] at hm'
  rw [hm',hxn] at e
  injection e with e1 e2
  have:=(ha p hp e1).2
  omega
 ·rcases zma.1 hp with hp|hp<;>rcases zma.1 hq with hq|hq
  ·exact hW.times p hp q hq e
  ·rw [zms.1 hq] at e⊢;rw [hxt];exact (ha p hp (e.trans hxd)).1
  ·rw [zms.1 hp] at e⊢;rw [hxt];exact (ha q hq (e.symm.trans hxd)).1.symm
  ·rw [zms.1 hp,zms.1 hq]
 ·rcases zma.1 hp with hp|hp
  ·rcases hW.up p hp with e|⟨u,hu,e⟩
   ·exact .inl e
   ·exact .inr ⟨u,List.mem_append_left _ hu,e⟩
  ·rw [zms.1 hp,hxp]
   rcases hup with e|⟨u,hu,e,h3⟩
   ·exact .inl e
   ·refine .inr ⟨u,List.mem_append_left _ hu,e, ?_⟩
    unfold eI
    rw [hxs,hxa]
    rcases h3 with h3|h3
    ·have hd:u.dot=yA w:=by rw [<-h3];rfl
     have:=(ha u hu hd).2
     simp [h3,this]
    ·rw [h3];rfl
theorem aaM {w:Sp}:∀(bs:List UInt8) {l:List Pt} {n:Int} {up:Nm},Whole l->wOK w->0<=n->n+bs.length<=2000->(∀p∈l,p.dot=yA w->p.time=w.time/\p.at_<n)->dY l w up->Whole (l++tyF w bs n up)
 |[],l,n,up,hW,_,_,_,_,_=>by rw [tyF,List.append_nil];exact hW
 |b::r,l,n,up,hW,hw,h0,h1,ha,hup=>by
  rw [zlc] at h1
  have h2:=aqD b hW hw h0 (by omega) ha hup
  have:=aaM r (n:=n+1) (up:=⟨⟨w.dev,w.seq⟩,n⟩) h2 hw (by omega) (by omega) (λp hp e=>by
   rcases zma.1 hp with hp|hp
   ·have:=ha p hp e;exact ⟨this.1,by omega⟩
   ·rw [zms.1 hp];exact ⟨rfl,by simp only;omega⟩) (.inr ⟨_,List.mem_append_right _ (zms.2 rfl),rfl, .inl rfl⟩)
  rw [List.append_assoc] at this
  exact this
open Classical in
theorem aBs {l:List Pt} (hW:Whole l):∀p∈l,0<=p.at_:=λp hp=>(mR (hW.formed p hp)).1
theorem amE (s:ByteArray):s.data.toList.length=s.size:=rfl
theorem Is.type {c:Cl} {l:List Pt} (h:Is c l) (s:ByteArray) (w:Sp) (up:Nm) (hl:l.length+s.size<=2000):
  ((wrL l w<0\/¬dY l w up\/200<s.size\/2000<wrL l w+s.size)/\(typeP c s w up).2≠0)\/
  (0<=wrL l w/\dY l w up/\¬(200<s.size\/2000<wrL l w+s.size))/\(typeP c s w up).2=0/\Is (typeP c s w up).1 (l++tyF w s.data.toList (wrL l w) up):=by
 have hp:=h.perm
 have hWc:Whole c.parts:=h.whole.perm' hp.symm
 have e1:dB c w=wrL l w:=by rw [aoX,aBr hp]
 have e2:eQ c w up=0↔dY l w up:=by rw [aqK hWc.named,aAB hp]
 have e3:c.parts.length=l.length:=hp.length_eq
 unfold typeP
 rw [h.right,e1,e3]
 simp only [ne_eq,not_true_eq_false,if_false]
 by_cases h1:wrL l w<0
 ·left;rw [zp h1];exact ⟨.inl h1,by simp⟩
 ·rw [zn h1]
  by_cases h2:200<s.size\/2000<l.length+s.size\/2000<wrL l w+s.size
  ·left;rw [zp h2];exact ⟨by rcases h2 with q|q|q;exact .inr (.inr (.inl q));omega;exact .inr (.inr (.inr q)),by simp⟩
  ·rw [zn h2]
   by_cases h3:eQ c w up=0
   ·right
    rw [zn (by simp [h3])]
    have hb:=e2.1 h3
    refine ⟨⟨by omega,hb,λq=>h2 (q.imp id .inr)⟩,rfl,h.kind,h.val, ?_, ?_, ?_⟩
    ·have hw:wOK w:=by
      apply Classical.byContradiction
      intro q;unfold wrL at h1;rw [zn q] at h1;omega
     have e4:wrL l w=wrF (yA w) w.time l 0:=by unfold wrL;rw [zp hw]
     refine aaM _ h.whole hw (by omega) (by rw [amE];omega) ?_ hb
     rw [e4] at h1⊢
     exact ahK (aBs h.whole) (Int.le_refl 0) (by omega)
    ·rw [zla,zI,amE];omega
    ·exact xT (hp.append_right _)
   ·left
    rw [zp h3]
    exact ⟨.inr (.inl λq=>h3 (e2.2 q)),h3⟩
end
end Go.Proofs.YtfablfldonhkiaaGreatDoor.T
namespace Go.Proofs.YtfablfldonhkiaaGreatDoor
open Go Go.Abs
set_option maxRecDepth 10000
set_option maxHeartbeats 4000000
theorem qT {α:Type} (f:α->Bool) (a:α) (l:List α):adD f (a::l)=if f a=true then 0 else adD f l+1:=by
 unfold adD
 rw [List.findIdx?_cons]
 by_cases h:f a=true
 ·rw [zp h,zp h];rfl
 ·rw [zn h,zn (by simpa using h)]
  cases List.findIdx? f l<;>simp
theorem aiT {α:Type} {l:List α} {k:Nat} {x y:α}:y∈l.take k++[x]++l.drop k↔y=x\/y∈l:=by
 rw [zma,zma,zms]
 have h:y∈l↔y∈l.take k\/y∈l.drop k:=by rw [<-zma,List.take_append_drop]
 rw [h]
 constructor
 ·rintro ((q|q)|q)
  ·exact .inr (.inl q)
  ·exact .inl q
  ·exact .inr (.inr q)
 ·rintro (q|q|q)
  ·exact .inl (.inr q)
  ·exact .inl (.inl q)
  ·exact .inr q
theorem apF {α:Type} {r:α->α->Prop} (tr:∀a b c,r a b->r b c->r a c) {x:α} {f:α->Bool}:∀{l:List α},l.Pairwise r->(∀p∈l,f p=false->r p x)->(∀p∈l,f p=true->r x p)->(l.take (adD f l)++[x]++l.drop (adD f l)).Pairwise r
 |[],_,_,_=>by simp
 |a::l,h,h1,h2=>by
  obtain ⟨ha,hl⟩:=List.pairwise_cons.1 h
  rw [qT]
  by_cases hf:f a=true
  ·rw [zp hf]
   have hxa:=h2 a (by simp) hf
   show (x::a::l).Pairwise r
   refine List.pairwise_cons.2 ⟨λy hy=> ?_,h⟩
   rcases zmc.1 hy with rfl|hy
   ·exact hxa
   ·exact tr _ _ _ hxa (ha y hy)
  ·rw [zn hf,List.take_succ_cons,List.drop_succ_cons,List.cons_append,List.cons_append]
   refine List.pairwise_cons.2 ⟨λy hy=> ?_,apF tr hl (λp hp=>h1 p (List.mem_cons_of_mem _ hp)) (λp hp=>h2 p (List.mem_cons_of_mem _ hp))⟩
   rcases aiT.1 hy with rfl|hy
   ·exact h1 a (by simp) (by simpa using hf)
   ·exact ha y hy
theorem aeW {l:List Pt} {k:Nat} {x y:Pt}:y∈dH l k [x]↔y=x\/y∈l:=aiT
theorem atT {ok:Pt->Bool} {bh:Pt->Pt->Bool} (tr:∀{a b c},bh b a=true->bh c b=true->bh c a=true) {l:List Pt}:yR ok bh l=true↔(∀p∈l,ok p=true)/\l.Pairwise λa b=>bh b a=true:=by
 constructor
 ·intro h
  have hj:∀j (hj:j<l.length),ok l[j]=true/\(j=0\/bh l[j] (l[j-1]'(by omega))=true):=λj hj=>by
   unfold yR at h
   rw [zal] at h
   have:=h j (List.mem_range.2 hj)
   rw [getElem!_pos l j hj,getElem!_pos l (j-1) (by omega),zba,Bool.or_eq_true,zde] at this
   exact this
  refine ⟨λp hp=>by obtain ⟨j,hj',rfl⟩:=zgo hp;exact (hj j hj').1,List.pairwise_iff_getElem.2 λi j hi hj' hij=> ?_⟩
  have key:∀d,∀h:i+d+1<l.length,bh l[i+d+1] l[i]=true:=λd=>by
   induction d with
   |zero=>intro h;exact (hj (i+1) h).2.resolve_left (by omega)
   |succ d ih=>
    intro h
    have h1:=ih (by omega)
    have h2:=(hj (i+(d+1)+1) h).2.resolve_left (by omega)
    exact tr h1 h2
  have:=key (j-i-1) (by omega)
  simp only [show i+(j-i-1)+1=j by omega] at this
  exact this
 ·rintro ⟨h1,h2⟩
  refine ahW λj hj=> ?_
  rw [h1 _ (zgm hj),Bool.true_and]
  rcases Nat.eq_zero_or_pos j with rfl|h0
  ·rfl
  ·rw [List.pairwise_iff_getElem.1 h2 (j-1) j (by omega) hj (by omega),Bool.or_true]
theorem sR {c:Cl}:lS c=true↔(c.kind=1/\c.val=Vl.zero)/\(∀p∈c.parts,jG p=true)/\c.parts.Pairwise λa b=>bA b.dot a.dot=true:=by
 unfold lS
 rw [zba,zde,atT (bh:=λp q=>bA p.dot q.dot) λh1 h2=>qA h1 h2]
theorem ahX {p q:Pt}:dY p q=true↔p.val.n>q.val.n\/p.val.n=q.val.n/\bA p.dot q.dot=true:=by
 unfold dY
 rw [Bool.or_eq_true,zba,zde,zde]
theorem aAM {a b c:Pt} (h1:dY b a=true) (h2:dY c b=true):dY c a=true:=by
 rw [ahX] at*
 rcases h1 with h1|⟨e1,h1⟩<;>rcases h2 with h2|⟨e2,h2⟩
 ·exact .inl (by omega)
 ·exact .inl (by omega)
 ·exact .inl (by omega)
 ·exact .inr ⟨by omega,qA h1 h2⟩
theorem aFf {a b:Pt} (h:dY a b=false) (hne:¬(a.val.n=b.val.n/\a.dot=b.dot)):dY b a=true:=by
 rw [<-Bool.not_eq_true,ahX] at h
 rw [ahX]
 rcases Int.lt_trichotomy a.val.n b.val.n with q|q|q
 ·exact .inl q
 ·refine .inr ⟨q.symm, ?_⟩
  refine xF ?_ λe=>hne ⟨q,e⟩
  rw [<-Bool.not_eq_true]
  exact λw=>h (.inr ⟨q,w⟩)
 ·exact absurd (.inl q) h
theorem kC {c:Cl}:jL c=true↔(c.kind=3/\c.val=Vl.zero)/\(∀p∈c.parts,jH p=true)/\c.parts.Pairwise λa b=>dY b a=true:=by
 unfold jL
 rw [zba,zde,atT (bh:=dY) λh1 h2=>aAM h1 h2]
theorem azQ {v:Vl} {d:Dt} (hv:bX v=true) (hd:fD d=true):jG (ptN v d)=true:=by
 unfold jG
 rw [show (ptN v d).val=v from rfl,show (ptN v d).dot=d from rfl,hv,hd]
 have:lM (ptN v d):=⟨rfl,rfl,rfl,rfl,rfl⟩
 simp only [decide_eq_true this];rfl
theorem aAn {n:Int} {d:Dt} (hv:bX (nV n)=true) (hd:fD d=true):jH (ptN (nV n) d)=true:=by
 unfold jH
 rw [show (ptN (nV n) d).val=nV n from rfl,show (ptN (nV n) d).dot=d from rfl,hv,hd]
 have:lM (ptN (nV n) d):=⟨rfl,rfl,rfl,rfl,rfl⟩
 simp only [decide_eq_true this];rfl
theorem uW {c:Cl} {v:Vl} {d:Dt} {kn:List Int} (h:lS c=true) (hv:bX v=true) (hd:fD d=true):lS (gW c v d kn)=true:=by
 obtain ⟨h0,h1,h2⟩:=sR.1 h
 refine sR.2 ⟨h0,λp hp=> ?_,apF (r:=λa b:Pt=>bA b.dot a.dot=true) (λ_ _ _ h1 h2=>qA h1 h2) (h2.filter _) (λp hp hf=> ?_) λp hp hf=> ?_⟩
 ·rcases aeW.1 hp with rfl|hp
  ·exact azQ hv hd
  ·exact h1 p ((List.mem_filter.1 hp).1)
 ·have hk:=(List.mem_filter.1 hp).2
  unfold rS at hk
  rw [zba,zde] at hk
  exact xF hf hk.1
 ·exact hf
theorem aaJ {c:Cl} {n:Int} {d:Dt} (h:jL c=true) (hv:bX (nV n)=true) (hd:fD d=true):jL (nL c n d)=true:=by
 unfold nL
 split
 ·exact h
 ·rename_i hs
  obtain ⟨h0,h1,h2⟩:=kC.1 h
  refine kC.2 ⟨h0,λp hp=> ?_,apF (r:=λa b:Pt=>dY b a=true) (λ_ _ _ h1 h2=>aAM h1 h2) h2 (λp hp hf=>aFf hf ?_) λp hp hf=>hf⟩
  ·rcases aeW.1 hp with rfl|hp
   ·exact aAn hv hd
   ·exact h1 p hp
  ·rintro ⟨q1,q2⟩
   apply hs
   rw [List.any_eq_true]
   refine ⟨p,hp, ?_⟩
   unfold rR
   rw [decide_eq_true (show p.val.n=n from q1),decide_eq_true (show p.dot=d from q2)];rfl
theorem ajC {c:Cl} {n:Int} {d:Dt} {kn:List Int} (h:jL c=true):jL (rW c n d kn)=true:=by
 obtain ⟨h0,h1,h2⟩:=kC.1 h
 exact kC.2 ⟨h0,λp hp=>h1 p ((List.mem_filter.1 hp).1),h2.filter _⟩
theorem abW {c:Cl} {n:Int} (h:(tK c n).2=0):(tK c n).1.kind=2/\cI (tK c n).1=0/\(tK c n).1.parts=[]:=by
 unfold tK at*
 split at h
 ·rename_i q;exact absurd h q
 ·rename_i q;rw [zn q]
  split at h
  ·rename_i q2;exact absurd h q2
  ·rename_i q2;rw [zn q2]
   split at h
   ·rename_i q3;exact absurd h q3
   ·rename_i q3;rw [zn q3]
    exact ⟨rfl,zdn q3,rfl⟩
theorem zP {c:Cl} {s:ByteArray} {w:T.Sp} {up:T.Nm} (h:T.rightP c=0) (h0:(T.typeP c s w up).2=0):T.rightP (T.typeP c s w up).1=0:=by
 have hl:c.parts.length+s.size<=2000:=by
  apply Classical.byContradiction
  intro q
  unfold T.typeP at h0
  rw [zn (by simp [h])] at h0
  split at h0
  ·simp at h0
  ·rw [zp (.inr (.inl (by omega)))] at h0
   simp at h0
 rcases (T.Is.of h).type s w up hl with ⟨_,q⟩|⟨_,_,q⟩
 ·exact absurd h0 q
 ·exact q.right
theorem jF {c:Cl} (h:T.rightP c=0):c.kind=4:=by
 unfold T.rightP at h
 split at h
 ·cases h
 ·rename_i q;exact zdn q
theorem cG {c:Cl}:iU T.rightP c=true↔(c.kind=0/\bX c.val=true/\c.parts=[])\/(c.kind=1/\lS c=true)\/(c.kind=2/\cI c=0)\/(c.kind=3/\jL c=true)\/(c.kind=4/\T.rightP c=0):=by
 unfold iU
 by_cases h0:c.kind=0
 ·rw [zp h0,zba,zde]
  constructor
  ·rintro ⟨a,b⟩;exact .inl ⟨h0,a,List.eq_nil_of_length_eq_zero b⟩
  ·rintro (⟨_,a,b⟩|⟨k,_⟩|⟨k,_⟩|⟨k,_⟩|⟨k,_⟩)
   ·exact ⟨a,by rw [b];rfl⟩
   all_goals omega
 rw [zn h0]
 by_cases h1:c.kind=1
 ·rw [zp h1]
  constructor
  ·exact λa=> .inr (.inl ⟨h1,a⟩)
  ·rintro (⟨k,_⟩|⟨_,a⟩|⟨k,_⟩|⟨k,_⟩|⟨k,_⟩)
   ·omega
   ·exact a
   all_goals omega
 rw [zn h1]
 by_cases h2:c.kind=2
 ·rw [zp h2,zde]
  constructor
  ·exact λa=> .inr (.inr (.inl ⟨h2,a⟩))
  ·rintro (⟨k,_⟩|⟨k,_⟩|⟨_,a⟩|⟨k,_⟩|⟨k,_⟩)
   ·omega
   ·omega
   ·exact a
   all_goals omega
 rw [zn h2]
 by_cases h3:c.kind=3
 ·rw [zp h3]
  constructor
  ·exact λa=> .inr (.inr (.inr (.inl ⟨h3,a⟩)))
  ·rintro (⟨k,_⟩|⟨k,_⟩|⟨k,_⟩|⟨_,a⟩|⟨k,_⟩)
   ·omega
   ·omega
   ·omega
   ·exact a
   ·omega
 rw [zn h3]
 by_cases h4:c.kind=4
 ·rw [zp h4,zde]
  constructor
  ·exact λa=> .inr (.inr (.inr (.inr ⟨h4,a⟩)))
  ·rintro (⟨k,_⟩|⟨k,_⟩|⟨k,_⟩|⟨k,_⟩|⟨_,a⟩)
   ·omega
   ·omega
   ·omega
   ·omega
   ·exact a
 ·rw [zn h4]
  simp [h0,h1,h2,h3,h4]
theorem amZ {v:Vl} (h:bX v=true) (hk:v.kind=1):bX (nV v.n)=true:=by
 unfold bX at*
 rw [zn (by omega),zp hk] at h
 rw [zn (by simp [nV]),zp (show (nV v.n).kind=1 from rfl)]
 simp only [zba,zde] at*
 exact ⟨⟨rfl,h.1.2⟩,h.2⟩
theorem qD {w:Wr} (h:pG w=true):fD w.dot=true:=by
 unfold pG T.withinB at h
 unfold fD Wr.dot
 simp only [zba,zde] at*
 omega
theorem aGb {w:Wr} {c:Cl} {o:Ot} {co:Co} (hw:pG w=true) (hc:iU T.rightP c=true) (hf:afQ o.kind c.kind=true) (hv:rL co o=0) (h0:(eR w c o).2=0):iU T.rightP (eR w c o).1=true/\(eR w c o).1.kind=c.kind:=by
 have hd:=qD hw
 have hvr:bX o.val=true:=by
  unfold rL at hv
  split at hv
  ·cases hv
  ·rename_i q
   cases e:bX o.val with
   |true=>rfl
   |false=>exact absurd (.inr e) q
 have hn:o.kind≠2->o.kind≠6->o.kind≠7->bX (nV o.val.n)=true:=λa b e=>by
  apply amZ hvr
  unfold rL at hv
  split at hv
  ·cases hv
  ·split at hv
   ·rename_i q;exact absurd q.1 a
   split at hv
   ·cases hv
   split at hv
   ·cases hv
   ·rename_i q;exact Classical.byContradiction λz=>q ⟨a,b,z⟩
 unfold eR at*
 unfold afQ at hf
 by_cases k2:o.kind=2
 ·rw [zp k2] at hf h0⊢
  rw [zde] at hf
  by_cases c0:c.kind=0
  ·rw [zp c0]
   exact ⟨cG.2 (.inl ⟨rfl,hvr,rfl⟩),c0.symm⟩
  ·rw [zn c0]
   have c1:c.kind=1:=hf.resolve_left c0
   rcases cG.1 hc with q|q|q|q|q
   ·exact absurd q.1 c0
   ·exact ⟨cG.2 (.inr (.inl ⟨c1,uW q.2 hvr hd⟩)),rfl⟩
   all_goals omega
 rw [zn k2] at hf h0⊢
 by_cases k3:o.kind=3
 ·rw [zp k3] at hf h0⊢
  rw [zde] at hf
  obtain ⟨a1,a2,a3⟩:=abW h0
  exact ⟨cG.2 (.inr (.inr (.inl ⟨a1,a2⟩))),by rw [a1,hf]⟩
 rw [zn k3] at hf h0⊢
 by_cases k4:o.kind=4
 ·rw [zp (.inl k4),zde] at hf
  rw [zp k4] at h0⊢
  rcases cG.1 hc with q|q|q|q|q
  ·omega
  ·omega
  ·omega
  ·have hk:(nL c o.val.n w.dot).kind=c.kind:=by unfold nL;split<;>rfl
   exact ⟨cG.2 (.inr (.inr (.inr (.inl ⟨by rw [hk,hf],aaJ q.2 (hn k2 (by omega) (by omega)) hd⟩)))),hk⟩
  ·omega
 rw [zn k4] at h0⊢
 by_cases k5:o.kind=5
 ·rw [zp (.inr k5),zde] at hf
  rw [zp k5] at h0⊢
  rcases cG.1 hc with q|q|q|q|q
  ·omega
  ·omega
  ·omega
  ·exact ⟨cG.2 (.inr (.inr (.inr (.inl ⟨hf,ajC q.2⟩)))),rfl⟩
  ·omega
 rw [zn (by omega)] at hf
 rw [zn k5] at h0⊢
 have hf4:(o.kind=6\/o.kind=7)/\c.kind=4:=by
  split at hf
  ·rename_i q;exact ⟨q,by simpa using hf⟩
  ·cases hf
 have hr:T.rightP c=0:=by
  rcases cG.1 hc with q|q|q|q|q
  ·omega
  ·omega
  ·omega
  ·omega
  ·exact q.2
 by_cases k6:o.kind=6
 ·rw [zp k6] at h0⊢
  have:=zP hr h0
  exact ⟨cG.2 (.inr (.inr (.inr (.inr ⟨jF this,this⟩)))),by rw [jF this,hf4.2]⟩
 ·rw [zn k6]
  have:=T.right_erase ⟨o.after,o.at_⟩ hr
  exact ⟨cG.2 (.inr (.inr (.inr (.inr ⟨jF this,this⟩)))),rfl⟩
theorem aDn :T.rightP ⟨4,Vl.zero,[]⟩=0:=by kernel_rfl
theorem aA8 {w:Wr} {c:Co} {v:Vl} (hw:pG w=true) (hk:0<=c.kind/\c.kind<=4) (hv:sW c v=0) (h0:(kK w c.kind v).2=0):iU T.rightP (kK w c.kind v).1=true/\(kK w c.kind v).1.kind=c.kind:=by
 have hd:=qD hw
 unfold sW at hv
 split at hv
 ·cases hv
 rename_i q0
 have hvr:bX v=true:=by simpa using q0
 split at hv
 ·cases hv
 rename_i q1
 split at hv
 ·cases hv
 rename_i q2
 unfold kK at*
 by_cases c0:c.kind=0
 ·rw [zp c0]
  exact ⟨cG.2 (.inl ⟨rfl,hvr,rfl⟩),c0.symm⟩
 rw [zn c0] at h0⊢
 by_cases c2:c.kind=2
 ·rw [zp c2] at h0⊢
  obtain ⟨a1,a2,a3⟩:=abW h0
  exact ⟨cG.2 (.inr (.inr (.inl ⟨a1,a2⟩))),by rw [a1,c2]⟩
 rw [zn c2] at h0⊢
 by_cases c4:c.kind=4
 ·rw [zp c4] at h0⊢
  have:=zP aDn h0
  exact ⟨cG.2 (.inr (.inr (.inr (.inr ⟨jF this,this⟩)))),by rw [jF this,c4]⟩
 rw [zn c4] at h0⊢
 have h13:c.kind=1\/c.kind=3:=by omega
 have hM:c.kind=1->lS ⟨c.kind,Vl.zero,[]⟩=true:=λe=>sR.2 ⟨⟨e,rfl⟩,by simp,List.Pairwise.nil⟩
 have hB:c.kind=3->jL ⟨c.kind,Vl.zero,[]⟩=true:=λe=>kC.2 ⟨⟨e,rfl⟩,by simp,List.Pairwise.nil⟩
 by_cases v0:v.kind=0
 ·rw [zp v0]
  rcases h13 with e|e
  ·exact ⟨cG.2 (.inr (.inl ⟨e,hM e⟩)),rfl⟩
  ·exact ⟨cG.2 (.inr (.inr (.inr (.inl ⟨e,hB e⟩)))),rfl⟩
 rw [zn v0] at h0⊢
 by_cases c3:c.kind=3
 ·rw [zp c3]
  have hk1:v.kind=1:=by
   have:v.kind=dQ c:=Classical.byContradiction λz=>q2 ⟨v0,z⟩
   rw [this];unfold dQ;rw [zn (by omega),zp (.inr c3)]
  have hk:(nL ⟨c.kind,Vl.zero,[]⟩ v.n w.dot).kind=c.kind:=by unfold nL;split<;>rfl
  exact ⟨cG.2 (.inr (.inr (.inr (.inl ⟨by rw [hk,c3],aaJ (hB c3) (amZ hvr hk1) hd⟩)))),hk⟩
 ·rw [zn c3]
  have c1:c.kind=1:=by omega
  exact ⟨cG.2 (.inr (.inl ⟨c1,uW (hM c1) hvr hd⟩)),rfl⟩
end Go.Proofs.YtfablfldonhkiaaGreatDoor
