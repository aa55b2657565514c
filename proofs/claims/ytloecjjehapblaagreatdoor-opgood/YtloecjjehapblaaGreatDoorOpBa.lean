import Derived.Test.YtloecjjehapblaaGreatDoorOpAt
set_option linter.unusedSimpArgs false
set_option linter.unusedVariables false
namespace Go.Proofs.YtloecjjehapblaaGreatDoor.T
open Go Go.Abs
set_option maxRecDepth 10000
set_option maxHeartbeats 4000000
structure Keeps (g:Pt->Pt):Prop where
 val:∀p,(g p).val=p.val
 dot:∀p,(g p).dot=p.dot
 at_:∀p,(g p).at_=p.at_
 time:∀p,(g p).time=p.time
 after:∀p,(g p).after=p.after
 afterAt:∀p,(g p).afterAt=p.afterAt
theorem Keeps.name {g:Pt->Pt} (hg:Keeps g) (p:Pt):aM (g p)=aM p:=by unfold aM;rw [hg.dot,hg.at_]
theorem Keeps.parent {g:Pt->Pt} (hg:Keeps g) (p:Pt):bE (g p)=bE p:=by unfold bE;rw [hg.after,hg.afterAt]
theorem Keeps.stamp {g:Pt->Pt} (hg:Keeps g) (p:Pt):bK (g p)=bK p:=by unfold bK;rw [hg.dot,hg.time]
theorem Keeps.formed {g:Pt->Pt} (hg:Keeps g) (p:Pt):bT (g p)=bT p:=by unfold bT;rw [hg.val,hg.time,hg.name,hg.parent]
theorem Keeps.ahead {g:Pt->Pt} (hg:Keeps g) (a b:Pt):eN (g a) (g b)=eN a b:=by unfold eN;rw [hg.stamp,hg.stamp,hg.at_,hg.at_]
theorem Keeps.names {g:Pt->Pt} (hg:Keeps g) (l:List Pt):(l.map g).map aM=l.map aM:=by
 rw [List.map_map];exact List.map_congr_left λp _=>hg.name p
theorem Keeps.whole {g:Pt->Pt} (hg:Keeps g) (l:List Pt):Whole (l.map g)↔Whole l:=by
 constructor
 ·intro h
  refine ⟨⟨λp hp=> ?_, ?_,λp hp q hq e=> ?_⟩,λp hp=> ?_⟩
  ·rw [<-hg.formed];exact h.formed _ (List.mem_map_of_mem hp)
  ·rw [<-hg.names];exact h.nodup
  ·rw [<-hg.time p,<-hg.time q];exact h.times _ (List.mem_map_of_mem hp) _ (List.mem_map_of_mem hq) (by rw [hg.dot,hg.dot,e])
  ·rcases h.up _ (List.mem_map_of_mem hp) with e|⟨u',hu',e1,e2⟩
   ·left;rw [<-hg.parent];exact e
   ·obtain ⟨u,hu,rfl⟩:=List.mem_map.1 hu'
    right;exact ⟨u,hu,by rw [<-hg.name,e1,hg.parent],by rw [<-hg.ahead u p];exact e2⟩
 ·intro h
  refine ⟨⟨λp' hp'=> ?_, ?_,λp' hp' q' hq' e=> ?_⟩,λp' hp'=> ?_⟩
  ·obtain ⟨p,hp,rfl⟩:=List.mem_map.1 hp';rw [hg.formed];exact h.formed p hp
  ·rw [hg.names];exact h.nodup
  ·obtain ⟨p,hp,rfl⟩:=List.mem_map.1 hp'
   obtain ⟨q,hq,rfl⟩:=List.mem_map.1 hq'
   rw [hg.time,hg.time];exact h.times p hp q hq (by rw [hg.dot,hg.dot] at e;exact e)
  ·obtain ⟨p,hp,rfl⟩:=List.mem_map.1 hp'
   rcases h.up p hp with e|⟨u,hu,e1,e2⟩
   ·left;rw [hg.parent];exact e
   ·right;exact ⟨g u,List.mem_map_of_mem hu,by rw [hg.name,e1,hg.parent],by rw [hg.ahead];exact e2⟩
theorem Keeps.anc {g:Pt->Pt} (hg:Keeps g) {l:List Pt} {p:Pt} {s:List Pt} (h:Anc l p s):Anc (l.map g) (g p) (s.map g):=by
 induction h with
 |root hp h0=>exact .root (List.mem_map_of_mem hp) (by rw [hg.parent];exact h0)
 |step hp hu e h0 _ ih=>rw [List.map_append];exact .step (List.mem_map_of_mem hp) (List.mem_map_of_mem hu) (by rw [hg.name,hg.parent];exact e) (by rw [hg.parent];exact h0) ih
theorem Keeps.lex {g:Pt->Pt} (hg:Keeps g):∀{s t:List Pt},pZ s t->pZ (s.map g) (t.map g)
 |_,[],h=>by cases ‹List Pt› <;>exact h.elim
 |[],_::_,_=>trivial
 |a::s,b::t,h=>by
  rcases h with ⟨rfl,h⟩|h
  ·exact .inl ⟨rfl,hg.lex h⟩
  ·refine .inr ?_
   rw [fB,hg.time,hg.time,hg.dot,hg.dot,hg.at_,hg.at_,<-fB];exact h
theorem Keeps.order {g:Pt->Pt} (hg:Keeps g) (l:List Pt):dH (l.map g)=(dH l).map g:=by
 by_cases hW:Whole l/\l.length<=2000
 ·obtain ⟨h1,h2⟩:=gM hW.1 hW.2
  refine xA ((hg.whole l).2 hW.1) (by rw [zql];exact hW.2) (h1.map g) ?_
  rw [List.pairwise_map]
  exact h2.imp λ⟨s,t,a,b,c⟩=>⟨_,_,hg.anc a,hg.anc b,hg.lex c⟩
 ·rw [kF hW,kF (by rw [hg.whole,zql];exact hW)];rfl
def gE (k:Nm) (p:Pt):Pt:=if aM p=k then xN p else p
theorem iC (k:Nm) (l:List Pt):dV k l=l.map (gE k):=rfl
theorem fG (k:Nm):Keeps (gE k):=by
 constructor<;>intro p<;>unfold gE xN<;>split<;>rfl
theorem aDC (j k:Nm) (p:Pt):gE j (gE k p)=gE k (gE j p):=by
 have h1:=(fG k).name p
 have h2:=(fG j).name p
 show (if aM (gE k p)=j then xN (gE k p) else gE k p)=if aM (gE j p)=k then xN (gE j p) else gE j p
 rw [h1,h2]
 unfold gE
 by_cases e1:aM p=k
 ·by_cases e2:aM p=j
  ·rw [if_pos e1,if_pos e2,if_pos e2,if_pos e1]
  ·rw [if_pos e1,if_neg e2,if_neg e2,if_pos e1]
 ·by_cases e2:aM p=j
  ·rw [if_neg e1,if_pos e2,if_neg e1]
  ·rw [if_neg e1,if_neg e2,if_neg e1]
theorem pE (j k:Nm) (l:List Pt):dV j (dV k l)=dV k (dV j l):=by
 simp only [iC,List.map_map];exact List.map_congr_left λp _=>aDC j k p
theorem eraseP_len (k:Nm) (c:Cl):(eraseP c k).parts.length=c.parts.length:=zql _
theorem ahF {c:Cl} (h1:c.kind=4) (h2:c.val=Vl.zero) (hW:Whole c.parts) (hl:c.parts.length<=2000) (ho:dH c.parts=c.parts):rightP c=0:=by
 unfold rightP
 rw [if_neg (by simp [h1]),if_neg (by simp [h2,(fV _).2 hW]),if_neg (by omega),if_neg (by simp [ho])]
theorem right_erase {c:Cl} (k:Nm) (h:rightP c=0):rightP (eraseP c k)=0:=by
 obtain ⟨h1,h2,hW,hl,ho⟩:=jO h
 refine ahF h1 h2 (((fG k).whole _).2 hW) (by rw [eraseP_len];exact hl) ?_
 show dH (c.parts.map (gE k))=c.parts.map (gE k)
 rw [(fG k).order,ho]
theorem adE {g:Pt->Pt} (hg:Keeps g) (d:Dt) (t:Int):∀(l:List Pt) (n:Int),wrF d t (l.map g) n=wrF d t l n
 |[],_=>rfl
 |p::r,n=>by simp only [List.map_cons,wrF,hg.dot,hg.time,hg.at_,adE hg d t r]
theorem aqB {c:Cl} {w:Sp} {up:Nm} (h:eT c w up=0) (h0:up≠Nm.zero):∃u∈c.parts,aM u=up/\¬(bK u≠w/\jL (bK u) w=false):=by
 unfold eT at h
 rw [if_neg h0] at h
 cases hI:c.parts.findIdx? (λp=>decide (aM p=up)) with
 |none=>rw [hI] at h;cases h
 |some i=>
  rw [hI] at h
  obtain ⟨hk,hk1,_⟩:=List.findIdx?_eq_some_iff_getElem.1 hI
  simp only [List.getElem?_eq_getElem hk] at h
  refine ⟨c.parts[i],zgm hk,of_decide_eq_true hk1,λq=> ?_⟩
  rw [if_pos q] at h;cases h
theorem ajP {k:Nm} {t:List Pt} (h:∀x∈t,aM x≠k):t.map (gE k)=t:=by
 conv=>rhs;rw [<-List.map_id t]
 exact List.map_congr_left λx hx=>by unfold gE;rw [if_neg (h x hx)];rfl
theorem type_len (c:Cl) (s:ByteArray) (w:Sp) (up:Nm):(typeP c s w up).1.parts.length<=c.parts.length+s.size:=by
 unfold typeP
 split
 ·exact Nat.zero_le _
 ·split
  ·exact Nat.zero_le _
  ·split
   ·exact Nat.zero_le _
   ·split
    ·exact Nat.zero_le _
    ·refine Nat.le_trans (aeA _) ?_
     rw [zla,uC];exact Nat.le_refl _
end Go.Proofs.YtloecjjehapblaaGreatDoor.T
namespace Go.Proofs.YtloecjjehapblaaGreatDoor.T
open Go Go.Abs
set_option maxRecDepth 10000
set_option maxHeartbeats 4000000
structure Is (c:Cl) (l:List Pt):Prop where
 kind:c.kind=4
 val:c.val=Vl.zero
 whole:Whole l
 len:l.length<=2000
 parts:c.parts=dH l
theorem Is.perm {c:Cl} {l:List Pt} (h:Is c l):c.parts.Perm l:=by rw [h.parts];exact (gM h.whole h.len).1
theorem Is.of {c:Cl} (h:rightP c=0):Is c c.parts:=by
 obtain ⟨h1,h2,hW,hl,ho⟩:=jO h
 exact ⟨h1,h2,hW,hl,ho.symm⟩
theorem Whole.perm' {l m:List Pt} (hp:l.Perm m) (h:Whole l):Whole m:=h.perm hp
theorem Is.right {c:Cl} {l:List Pt} (h:Is c l):rightP c=0:=by
 refine ahF h.kind h.val (h.whole.perm' h.perm.symm) (by rw [h.perm.length_eq];exact h.len) ?_
 rw [wT h.perm];exact h.parts.symm
theorem Is.erase {c:Cl} {l:List Pt} (h:Is c l) (k:Nm):Is (eraseP c k) (dV k l):=
 ⟨h.kind,h.val,((fG k).whole l).2 h.whole,by rw [iC,zql];exact h.len,by
  show dV k c.parts=_
  rw [h.parts,iC,iC,(fG k).order]⟩
def fS (w:Sp):Dt:=⟨w.dev,w.seq⟩
def wOK (w:Sp):Prop:=withinB w.time 1 1125899906842624=true/\mayN ⟨⟨w.dev,w.seq⟩,0⟩=true
instance (w :Sp):Decidable (wOK w):=inferInstanceAs (Decidable (_/\_))
def wrL (l:List Pt) (w:Sp):Int:=if wOK w then wrF (fS w) w.time l 0 else-1
theorem amS (c:Cl) (w:Sp):dF c w=wrL c.parts w:=rfl
theorem aAw {d:Dt} {t:Int} {l m:List Pt} (h:l.Perm m):∀n,wrF d t l n=wrF d t m n:=by
 induction h with
 |nil=>intro n;rfl
 |cons x _ ih=>intro n;simp only [wrF,ih]
 |swap x y l=>
  intro n
  simp only [wrF]
  by_cases h1:x.dot=d
  ·by_cases h2:y.dot=d
   ·simp only [h1,h2,ne_eq,not_true_eq_false,if_false]
    by_cases h3:x.time=t
    ·by_cases h4:y.time=t
     ·simp only [h3,h4,not_true_eq_false,if_false];congr 1;omega
     ·simp only [h3,h4,not_true_eq_false,not_false_eq_true,if_false,if_true]
    ·by_cases h4:y.time=t
     ·simp only [h3,h4,not_true_eq_false,not_false_eq_true,if_false,if_true]
     ·simp only [h3,h4,not_false_eq_true,if_true]
   ·simp only [h1,h2,ne_eq,not_true_eq_false,not_false_eq_true,if_false,if_true]
  ·simp only [h1,ne_eq,not_false_eq_true,if_true]
 |trans _ _ ih1 ih2=>intro n;rw [ih1,ih2]
theorem ayU {l m:List Pt} (h:l.Perm m) (w:Sp):wrL l w=wrL m w:=by unfold wrL;rw [aAw h]
theorem aeV {d:Dt} {t:Int}:∀{l:List Pt} {n:Int},0<=n->(∀p∈l,0<=p.at_)->wrF d t l n= -1\/n<=wrF d t l n
 |[],n,_,_=> .inr (Int.le_refl _)
 |p::r,n,h,hf=>by
  have hp:=hf p (by simp)
  have hr:∀q∈r,0<=q.at_:=λq hq=>hf q (by simp [hq])
  simp only [wrF]
  split
  ·exact aeV h hr
  ·split
   ·exact .inl rfl
   ·rcases aeV (d:=d) (t:=t) (n:=max n (p.at_+1)) (by omega) hr with e|e
    ·exact .inl e
    ·exact .inr (by omega)
theorem aiN {d:Dt} {t:Int}:∀{l:List Pt} {n:Int},(∀p∈l,p.dot≠d)->wrF d t l n=n
 |[],_,_=>rfl
 |p::r,n,h=>by
  simp only [wrF]
  rw [if_pos (h p (by simp))]
  exact aiN λq hq=>h q (by simp [hq])
theorem sL {d:Dt} {t:Int} {m:List Pt} (h:∀p∈m,p.dot≠d):∀(l:List Pt) (n:Int),wrF d t (l++m) n=wrF d t l n
 |[],n=>aiN h
 |p::r,n=>by rw [List.cons_append];simp only [wrF,sL h r]
theorem afT {d:Dt} {t:Int}:∀{l:List Pt} {n:Int},(∀p∈l,0<=p.at_)->0<=n->0<=wrF d t l n->∀p∈l,p.dot=d->p.time=t/\p.at_<wrF d t l n
 |[],_,_,_,_,p,h,_=>by cases h
 |x::r,n,hf,hn,h0,p,hp,e=>by
  have hx:=hf x (by simp)
  have hr:∀q∈r,0<=q.at_:=λq hq=>hf q (by simp [hq])
  simp only [wrF] at h0⊢
  rcases zmc.1 hp with rfl|hp
  ·rw [if_neg (by simp [e])] at h0⊢
   split at h0
   ·omega
   ·rename_i e2
    rw [if_neg e2]
    refine ⟨by simpa using e2, ?_⟩
    rcases aeV (d:=d) (t:=t) (l:=r) (n:=max n (p.at_+1)) (by omega) hr with q|q<;>omega
  ·split at h0
   ·rename_i e2;rw [if_pos e2];exact afT hr hn h0 p hp e
   ·rename_i e2
    rw [if_neg e2]
    split at h0
    ·omega
    ·rename_i e3;rw [if_neg e3];exact afT hr (by omega) h0 p hp e
theorem aqZ {w:Sp}:∀{bs:List UInt8} {n:Int} {up:Nm},∀x∈tyF w bs n up,x.dot=fS w
 |[],_,_,x,h=>by cases h
 |b::r,n,up,x,h=>by
  rcases zmc.1 h with rfl|h
  ·rfl
  ·exact aqZ x h
def dP (l:List Pt) (w:Sp) (up:Nm):Prop:=up=Nm.zero\/∃u∈l,aM u=up/\(bK u=w\/jL (bK u) w=true)
theorem anN {c:Cl} {w:Sp} {up:Nm} (hn:named c.parts):eT c w up=0↔dP c.parts w up:=by
 constructor
 ·intro h
  by_cases h0:up=Nm.zero
  ·exact .inl h0
  ·obtain ⟨u,hu,e,h2⟩:=aqB h h0
   refine .inr ⟨u,hu,e, ?_⟩
   by_cases h3:bK u=w
   ·exact .inl h3
   ·refine .inr ?_
    cases h4:jL (bK u) w
    ·exact absurd ⟨h3,h4⟩ h2
    ·rfl
 ·intro h
  unfold eT
  by_cases h0:up=Nm.zero
  ·rw [if_pos h0]
  ·rw [if_neg h0]
   obtain ⟨u,hu,e,h2⟩:=h.resolve_left h0
   cases hI:c.parts.findIdx? (λp=>decide (aM p=up)) with
   |none=>
    have:=List.findIdx?_eq_none_iff.1 hI u hu
    simp [e] at this
   |some i=>
    obtain ⟨hk,hk1,_⟩:=List.findIdx?_eq_some_iff_getElem.1 hI
    simp only [List.getElem?_eq_getElem hk]
    have e2:c.parts[i]=u:=hn _ (zgm hk) _ hu ((of_decide_eq_true hk1).trans e.symm)
    rw [e2,if_neg]
    rintro ⟨h3,h4⟩
    rcases h2 with h2|h2
    ·exact h3 h2
    ·rw [h4] at h2;cases h2
theorem axB {l m:List Pt} (h:l.Perm m) (w:Sp) (up:Nm):dP l w up↔dP m w up:=
 or_congr Iff.rfl ⟨λ⟨u,hu,q⟩=>⟨u,h.subset hu,q⟩,λ⟨u,hu,q⟩=>⟨u,h.symm.subset hu,q⟩⟩
theorem aAB {l m:List Pt} {w:Sp} {up:Nm} (h:∀x∈m,aM x≠up):dP (l++m) w up↔dP l w up:=
 or_congr Iff.rfl ⟨λ⟨u,hu,q⟩=>⟨u,(zma.1 hu).resolve_right λhm=>h u hm q.1,q⟩,λ⟨u,hu,q⟩=>⟨u,List.mem_append_left _ hu,q⟩⟩
theorem anO {l:List Pt} {w:Sp} {up k:Nm}:dP (dV k l) w up↔dP l w up:=by
 refine or_congr Iff.rfl ⟨λ⟨u',hu,q⟩=> ?_,λ⟨u,hu,q⟩=>⟨gE k u,List.mem_map_of_mem hu,by rw [(fG k).name,(fG k).stamp];exact q⟩⟩
 obtain ⟨u,hv,rfl⟩:=List.mem_map.1 hu
 exact ⟨u,hv,by rw [<-(fG k).name u,<-(fG k).stamp u];exact q⟩
theorem aFa {p:Pt} (h:bT p=true):mayN (aM p)=true:=by
 simp only [bT,zba] at h;exact h.1.2
theorem aED {w:Sp} (hw:wOK w) {n:Int} (h0:0<=n) (h1:n<=1999):mayN ⟨fS w,n⟩=true:=by
 have:=hw.2
 show mayN ⟨⟨w.dev,w.seq⟩,n⟩=true
 simp only [mayN,withinB,zba,zde] at this⊢
 exact ⟨this.1,h0,h1⟩
theorem anJ {l:List Pt} {w:Sp} {n:Int} {up:Nm} (b:UInt8) (hW:Whole l) (hw:wOK w) (h0:0<=n) (h1:n<=1999) (ha:∀p∈l,p.dot=fS w->p.time=w.time/\p.at_<n)
  (hup:up=Nm.zero\/∃u∈l,aM u=up/\(bK u=w\/jL (bK u) w=true)):
  Whole (l++[⟨⟨1,(b.toNat:Int),e0⟩,⟨w.dev,w.seq⟩,n,w.time,up.dot,up.at_,false⟩]):=by
 have hb:=b.toNat_lt
 obtain ⟨x,hx⟩:∃x:Pt,(⟨⟨1,(b.toNat:Int),e0⟩,⟨w.dev,w.seq⟩,n,w.time,up.dot,up.at_,false⟩:Pt)=x:=⟨_,rfl⟩
 have hxn:aM x=⟨fS w,n⟩:=by rw [<-hx];rfl
 have hxp:bE x=up:=by rw [<-hx];rfl
 have hxd:x.dot=fS w:=by rw [<-hx];rfl
 have hxt:x.time=w.time:=by rw [<-hx]
 have hxs:bK x=w:=by rw [<-hx];rfl
 have hxa:x.at_=n:=by rw [<-hx]
 have hxv:x.val=⟨1,(b.toNat:Int),e0⟩:=by rw [<-hx]
 rw [hx]
 have hmu:up=Nm.zero\/mayN up=true:=hup.imp id λ⟨u,hu,e,_⟩=>by rw [<-e];exact aFa (hW.formed u hu)
 have hfx:bT x=true:=by
  unfold bT
  rw [hxv,hxt,hxn,hxp,aED hw h0 h1,hw.1]
  have e1:withinB (b.toNat:Int) 0 255=true:=by
   unfold withinB;rw [zba,zde,zde];omega
  rcases hmu with e|e
  ·simp [e1,e]
  ·simp [e1,e]
 refine ⟨⟨λp hp=> ?_, ?_,λp hp q hq e=> ?_⟩,λp hp=> ?_⟩
 ·rcases zma.1 hp with hp|hp
  ·exact hW.formed p hp
  ·rw [List.mem_singleton.1 hp];exact hfx
 ·rw [List.map_append,List.nodup_append]
  refine ⟨hW.nodup,by simp,λm hm m' hm' e=> ?_⟩
  obtain ⟨p,hp,rfl⟩:=List.mem_map.1 hm
  rw [List.map_singleton,List.mem_singleton] at hm'
  rw [hm',hxn] at e
  injection e with e1 e2
  have:=(ha p hp e1).2
  omega
 ·rcases zma.1 hp with hp|hp<;>rcases zma.1 hq with hq|hq
  ·exact hW.times p hp q hq e
  ·rw [List.mem_singleton.1 hq] at e⊢;rw [hxt];exact (ha p hp (e.trans hxd)).1
  ·rw [List.mem_singleton.1 hp] at e⊢;rw [hxt];exact (ha q hq (e.symm.trans hxd)).1.symm
  ·rw [List.mem_singleton.1 hp,List.mem_singleton.1 hq]
 ·rcases zma.1 hp with hp|hp
  ·rcases hW.up p hp with e|⟨u,hu,e⟩
   ·exact .inl e
   ·exact .inr ⟨u,List.mem_append_left _ hu,e⟩
  ·rw [List.mem_singleton.1 hp,hxp]
   rcases hup with e|⟨u,hu,e,h3⟩
   ·exact .inl e
   ·refine .inr ⟨u,List.mem_append_left _ hu,e, ?_⟩
    unfold eN
    rw [hxs,hxa]
    rcases h3 with h3|h3
    ·have hd:u.dot=fS w:=by rw [<-h3];rfl
     have:=(ha u hu hd).2
     simp [h3,this]
    ·rw [h3];rfl
theorem zO {w:Sp}:∀(bs:List UInt8) {l:List Pt} {n:Int} {up:Nm},Whole l->wOK w->0<=n->n+bs.length<=2000->(∀p∈l,p.dot=fS w->p.time=w.time/\p.at_<n)->dP l w up->Whole (l++tyF w bs n up)
 |[],l,n,up,hW,_,_,_,_,_=>by rw [tyF,List.append_nil];exact hW
 |b::r,l,n,up,hW,hw,h0,h1,ha,hup=>by
  rw [zlc] at h1
  have h2:=anJ b hW hw h0 (by omega) ha hup
  have:=zO r (n:=n+1) (up:=⟨⟨w.dev,w.seq⟩,n⟩) h2 hw (by omega) (by omega) (λp hp e=>by
   rcases zma.1 hp with hp|hp
   ·have:=ha p hp e;exact ⟨this.1,by omega⟩
   ·rw [List.mem_singleton.1 hp];exact ⟨rfl,by simp only;omega⟩) (.inr ⟨_,List.mem_append_right _ (List.mem_singleton.2 rfl),rfl, .inl rfl⟩)
  rw [List.append_assoc] at this
  exact this
def rT (c:Cl) (w:Sp) (up:Nm):List ByteArray->Cl
 |[]=>c
 |s::r=>rT (if (typeP c s w up).2=0 then (typeP c s w up).1 else c) w up r
def rN (w:Sp) (up:Nm):Int->List ByteArray->List Pt
 |_,[]=>[]
 |n,s::r=>if 200<s.size\/2000<n+s.size then rN w up n r else tyF w s.data.toList n up++rN w up (n+s.size) r
def acW :List ByteArray->Nat
 |[]=>0
 |s::r=>s.size+acW r
open Classical in
noncomputable def deltaL (l:List Pt) (w:Sp) (up:Nm) (ss:List ByteArray):List Pt:=if wrL l w<0\/¬dP l w up then [] else rN w up (wrL l w) ss
theorem ayV {l:List Pt} (hW:Whole l):∀p∈l,0<=p.at_:=λp hp=>(mH (hW.formed p hp)).1
theorem aaZ (s:ByteArray):s.data.toList.length=s.size:=rfl
theorem Is.type {c:Cl} {l:List Pt} (h:Is c l) (s:ByteArray) (w:Sp) (up:Nm) (hl:l.length+s.size<=2000):
  ((wrL l w<0\/¬dP l w up\/200<s.size\/2000<wrL l w+s.size)/\(typeP c s w up).2≠0)\/
  (0<=wrL l w/\dP l w up/\¬(200<s.size\/2000<wrL l w+s.size))/\(typeP c s w up).2=0/\Is (typeP c s w up).1 (l++tyF w s.data.toList (wrL l w) up):=by
 have hp:=h.perm
 have hWc:Whole c.parts:=h.whole.perm' hp.symm
 have e1:dF c w=wrL l w:=by rw [amS,ayU hp]
 have e2:eT c w up=0↔dP l w up:=by rw [anN hWc.named,axB hp]
 have e3:c.parts.length=l.length:=hp.length_eq
 unfold typeP
 rw [h.right,e1,e3]
 simp only [ne_eq,not_true_eq_false,if_false]
 by_cases h1:wrL l w<0
 ·left;rw [if_pos h1];exact ⟨.inl h1,by simp⟩
 ·rw [if_neg h1]
  by_cases h2:200<s.size\/2000<l.length+s.size\/2000<wrL l w+s.size
  ·left;rw [if_pos h2];exact ⟨by rcases h2 with q|q|q;exact .inr (.inr (.inl q));omega;exact .inr (.inr (.inr q)),by simp⟩
  ·rw [if_neg h2]
   by_cases h3:eT c w up=0
   ·right
    rw [if_neg (by simp [h3])]
    have hb:=e2.1 h3
    refine ⟨⟨by omega,hb,λq=>h2 (q.imp id .inr)⟩,rfl,h.kind,h.val, ?_, ?_, ?_⟩
    ·have hw:wOK w:=by
      apply Classical.byContradiction
      intro q;unfold wrL at h1;rw [if_neg q] at h1;omega
     have e4:wrL l w=wrF (fS w) w.time l 0:=by unfold wrL;rw [if_pos hw]
     refine zO _ h.whole hw (by omega) (by rw [aaZ];omega) ?_ hb
     rw [e4] at h1⊢
     exact afT (ayV h.whole) (Int.le_refl 0) (by omega)
    ·rw [zla,uC,aaZ];omega
    ·exact wT (hp.append_right _)
   ·left
    rw [if_pos h3]
    exact ⟨.inr (.inl λq=>h3 (e2.2 q)),h3⟩
theorem rY {w:Sp} {up:Nm}:∀{ss:List ByteArray} {n:Int},∀x∈rN w up n ss,x.dot=fS w
 |[],_,x,h=>by cases h
 |s::r,n,x,h=>by
  rw [rN] at h
  split at h
  ·exact rY x h
  ·rcases zma.1 h with h|h
   ·exact aqZ x h
   ·exact rY x h
theorem zS {l:List Pt} {w:Sp} {up:Nm} {ss:List ByteArray}:∀x∈deltaL l w up ss,x.dot=fS w:=by
 intro x h
 unfold deltaL at h
 split at h
 ·cases h
 ·exact rY x h
theorem sB {w:Sp} {up:Nm}:∀{ss:List ByteArray} {n:Int},(rN w up n ss).length<=acW ss
 |[],_=>Nat.le_refl _
 |s::r,n=>by
  rw [rN,acW]
  split
  ·exact Nat.le_trans sB (by omega)
  ·rw [zla,uC,aaZ];have:=sB (w:=w) (up:=up) (ss:=r) (n:=n+s.size);omega
theorem aaU {l:List Pt} {w:Sp} {up:Nm} {ss:List ByteArray}:(deltaL l w up ss).length<=acW ss:=by
 unfold deltaL
 split
 ·exact Nat.zero_le _
 ·exact sB
theorem tN {l A:List Pt} {w v:Sp} {up k:Nm} {ss:List ByteArray} (hA:∀x∈A,x.dot=fS v) (hne:fS v≠fS w) (hup:up.dot≠fS v):deltaL (dV k (l++A)) w up ss=deltaL l w up ss:=by
 have e1:wrL (dV k (l++A)) w=wrL l w:=by
  unfold wrL
  rw [iC,adE (fG k),sL λp hp=>by rw [hA p hp];exact hne]
 have e2:dP (dV k (l++A)) w up↔dP l w up:=by
  rw [anO,aAB λx hx e=>hup (by rw [<-e];exact hA x hx)]
 unfold deltaL
 rw [e1]
 by_cases hb:wrL l w<0\/¬dP l w up
 ·rw [if_pos hb,if_pos (by rw [e2];exact hb)]
 ·rw [if_neg hb,if_neg (by rw [e2];exact hb)]
theorem wM {A:List Pt} {v:Sp} {k:Nm} (hA:∀x∈A,x.dot=fS v) (hk:k.dot≠fS v):dV k A=A:=
 ajP λx hx e=>hk (by rw [<-e];exact hA x hx)
theorem anT (k:Nm) (l m:List Pt):dV k (l++m)=dV k l++dV k m:=List.map_append
end Go.Proofs.YtloecjjehapblaaGreatDoor.T
