import Derived.Test.YtloecjjehapblaaGreatDoorOkAn
import Derived.Test.YtloecjjehapblaaGreatDoorOkAa
import Derived.Test.YtloecjjehapblaaGreatDoorAcSort
import Derived.Test.YtloecjjehapblaaGreatDoorAcG
import Derived.Test.YtloecjjehapblaaGreatDoorAcK
set_option linter.unusedSimpArgs false
set_option linter.unusedVariables false
namespace Go.Proofs.YtloecjjehapblaaGreatDoor
open Go Go.Abs
section
attribute [local irreducible] Ev PWp
set_option maxRecDepth 10000
set_option maxHeartbeats 4000000
def acG (b:Bs) (z:R2):Bool:=(eD (aN b z.1) z.2).isSome
theorem akG {b:Bs} {z:R2}:acG b z=true↔z∈bV b:=by
 unfold acG
 rw [iP]
 constructor
 ·intro h
  obtain ⟨x,hx⟩:=Option.isSome_iff_exists.1 h
  have h1:=List.mem_of_find?_eq_some hx
  have h2:x.key=z.2:=by simpa using List.find?_some hx
  cases hk:okT b z.1 with
  |false=>rw [ajT hk] at h1;cases h1
  |true=>
   have e:aN b z.1=b[z.1.toNat]!.lines:=by unfold aN;rw [zp hk]
   simp only [okT,zba,zde] at hk
   rw [e] at h1
   exact ⟨z.1.toNat,by omega,x,h1,Prod.ext (by show z.1=_;omega) h2.symm⟩
 ·rintro ⟨k,hk,l,hl,rfl⟩
  have e:aN b (k:Int)=b[k]!.lines:=by
   unfold aN
   rw [zp (by simp [okT];omega),Int.toNat_natCast]
  show (eD (aN b (k:Int)) l.key).isSome=true
  rw [e]
  unfold eD
  rw [List.find?_isSome]
  exact ⟨l,hl,by simp⟩
def tG (s:Sc) (b:Bs) (z:R2):List R2:=if acG b z=true then avP s b z else []
def aDs (s:Sc) (b:Bs) (z:R2):PV:= .fmap (aY mU bF (mE (tG s b z)))
theorem abL {st:aI} {i j k l m:Nat} {a b c d:AObj} (h1:st i=none) (h2:upd st i (some a) j=none) (h3:upd (upd st i (some a)) j (some b) k=none) (h4:upd (upd (upd st i (some a)) j (some b)) k (some c) l=none) (h5:upd (upd (upd (upd st i (some a)) j (some b)) k (some c)) l (some d) m=none):
  (j≠i/\k≠i/\l≠i/\m≠i)/\(k≠j/\l≠j/\m≠j)/\(l≠k/\m≠k)/\m≠l/\st j=none/\st k=none/\st l=none/\st m=none:=by
 have q1:∀{f:aI} {x y:Nat} {o:AObj},upd f x (some o) y=none->y≠x/\f y=none:=fun {f x y o} h=>by
  by_cases e:y=x
  ·rw [e,aA] at h;cases h
  ·exact ⟨e,by rwa [aD e] at h⟩
 obtain ⟨a1,a2⟩:=q1 h2
 obtain ⟨b1,b2⟩:=q1 h3
 obtain ⟨b3,b4⟩:=q1 b2
 obtain ⟨c1,c2⟩:=q1 h4
 obtain ⟨c3,c4⟩:=q1 c2
 obtain ⟨c5,c6⟩:=q1 c4
 obtain ⟨d1,d2⟩:=q1 h5
 obtain ⟨d3,d4⟩:=q1 d2
 obtain ⟨d5,d6⟩:=q1 d4
 obtain ⟨d7,d8⟩:=q1 d6
 exact ⟨⟨a1,b3,c5,d7⟩,⟨b1,c3,d5⟩,⟨c1,d3⟩,d1,a2,b4,c6,d8⟩
theorem aCG {f:aI} {i:Nat} {x:Option AObj} (h:f i=x):upd f i x=f:=by
 funext j
 by_cases e:j=i
 ·subst e;rw [aA,h]
 ·rw [aD e]
structure KB (s:Sc) (b:Bs) (st:aI) (idm id9 id4 id5 id10:Nat):Prop where
 one:KS s b id9 id4 id5 id10 idm (upd (upd (upd (upd (upd (upd st idm (some (mM []))) id9 (some (.cells 310 [.mref idm]))) id4 (some (.cells 24 (scC s)))) id5 (some (.cells 27 (bsC b)))) id10 (some (.cells 378 [.val .nilFunc]))) id10 (some (.cells 378 [.fn 309 [.ref id9 0, .ref id4 0, .ref id5 0, .ref id10 0]])))
 two:upd (upd (upd (upd (upd (upd (upd st idm (some (mM []))) id9 (some (.cells 310 [.mref idm]))) id4 (some (.cells 24 (scC s)))) id5 (some (.cells 27 (bsC b)))) id10 (some (.cells 378 [.val .nilFunc]))) id10 (some (.cells 378 [.fn 309 [.ref id9 0, .ref id4 0, .ref id5 0, .ref id10 0]]))) idm (some (mM []))=upd (upd (upd (upd (upd (upd st idm (some (mM []))) id9 (some (.cells 310 [.mref idm]))) id4 (some (.cells 24 (scC s)))) id5 (some (.cells 27 (bsC b)))) id10 (some (.cells 378 [.val .nilFunc]))) id10 (some (.cells 378 [.fn 309 [.ref id9 0, .ref id4 0, .ref id5 0, .ref id10 0]]))
 three:(upd (upd (upd (upd (upd (upd st idm (some (mM []))) id9 (some (.cells 310 [.mref idm]))) id4 (some (.cells 24 (scC s)))) id5 (some (.cells 27 (bsC b)))) id10 (some (.cells 378 [.val .nilFunc]))) id10 (some (.cells 378 [.fn 309 [.ref id9 0, .ref id4 0, .ref id5 0, .ref id10 0]]))) idm=some (mM [])
theorem aDY (s:Sc) (b:Bs) (st:aI) {idm id9 id4 id5 id10:Nat} (m1:id9≠idm) (m2:id4≠idm) (m3:id5≠idm) (m4:id10≠idm) (m5:id4≠id9) (m6:id5≠id9) (m7:id10≠id9) (m8:id5≠id4) (m9:id10≠id4) (m10:id10≠id5):KB s b st idm id9 id4 id5 id10:=by
 have h3:(upd (upd (upd (upd (upd (upd st idm (some (mM []))) id9 (some (.cells 310 [.mref idm]))) id4 (some (.cells 24 (scC s)))) id5 (some (.cells 27 (bsC b)))) id10 (some (.cells 378 [.val .nilFunc]))) id10 (some (.cells 378 [.fn 309 [.ref id9 0, .ref id4 0, .ref id5 0, .ref id10 0]]))) idm=some (mM []):=(aD (Ne.symm m4)).trans ((aD (Ne.symm m4)).trans ((aD (Ne.symm m3)).trans ((aD (Ne.symm m2)).trans ((aD (Ne.symm m1)).trans (aA _ _ _)))))
 exact ⟨⟨(aD (Ne.symm m7)).trans ((aD (Ne.symm m7)).trans ((aD (Ne.symm m6)).trans ((aD (Ne.symm m5)).trans (aA _ _ _)))),(aD (Ne.symm m9)).trans ((aD (Ne.symm m9)).trans ((aD (Ne.symm m8)).trans (aA _ _ _))),(aD (Ne.symm m10)).trans ((aD (Ne.symm m10)).trans (aA _ _ _)),aA _ _ _,m1,m2,m3,m4⟩,aCG h3,h3⟩
theorem aBj {s:Sc} {b:Bs} {st:aI} {idm id9 id4 id5 id10:Nat} {x:Option AObj} (h0:st idm=none) (h9:st id9=none) (h4:st id4=none) (h5:st id5=none) (h10:st id10=none):StSub st (upd (upd (upd (upd (upd (upd (upd (upd st idm (some (mM []))) id9 (some (.cells 310 [.mref idm]))) id4 (some (.cells 24 (scC s)))) id5 (some (.cells 27 (bsC b)))) id10 (some (.cells 378 [.val .nilFunc]))) id10 (some (.cells 378 [.fn 309 [.ref id9 0, .ref id4 0, .ref id5 0, .ref id10 0]]))) idm x) idm none):=λj=>by
 cases hj:st j with
 |none=>exact .inl rfl
 |some o=>
  right
  have q:∀{i:Nat},st i=none->j≠i:=fun {i} hi e=>by subst e;rw [hi] at hj;cases hj
  rw [aD (q h0),aD (q h0),aD (q h10),aD (q h10),aD (q h5),aD (q h4),aD (q h9),aD (q h0),hj]
theorem ahG {s:Sc} {b:Bs} (hFo:Fol s b) (hl:∀d∈b,d.lines.length<100000000000) (z:R2):PF Tryz.prog 237 [.agg (scC s), .agg (bsC b),(.val (.int .i64 z.1)),(.val (.int .i64 z.2))] (aDs s b z):=by
 have hg:=aaU b z.1 z.2 hl
 rw [aqX] at hg
 unfold aDs tG
 by_cases hz:acG b z=true
 ·rw [zp hz]
  have hrow:=akG.1 hz
  unfold acG at hz
  rw [hz] at hg
  refine aG aF Tryz.func237 (by kernel_rfl) rfl rfl rfl rfl (λst=> ?_)
  focus ((try apply wO pk;rfl);(repeat' first|(apply mkM (enc:=mU) (f:=bF);rfl;intro idm hidm)|show Cn _;constructor|apply wE pk;rfl;rfl|apply stR pk;rfl;rfl;(exact aA _ _ _);rfl;rfl|(apply fL 9;rfl;rfl;intro id9 hid9)|(apply fL 4;rfl;rfl;intro id4 hid4)|(apply fL 5;rfl;rfl;intro id5 hid5)|(apply fL 10;rfl;rfl;intro id10 hid10)))
  obtain ⟨⟨m1,m2,m3,m4⟩,⟨m5,m6,m7⟩,⟨m8,m9⟩,m10,f9,f4,f5,f10⟩:=abL hidm hid9 hid4 hid5 hid10
  have hm0:st idm=none:=hidm
  have hf9:st id9=none:=f9
  have hf4:st id4=none:=f4
  have hf5:st id5=none:=f5
  have hf10:st id10=none:=f10
  clear hidm hid9 hid4 hid5 hid10 f9 f4 f5 f10
  have hK:=aDY s b st m1 m2 m3 m4 m5 m6 m7 m8 m9 m10
  have hC:=atN hFo hK.one ((bV b).length+1) z [] hrow List.nodup_nil (by simp) (by simp)
  have hS9:=hK.one.h9
  have hn5:=Ne.symm m10
  rw [hK.two] at hC
  have hsub:=aBj (s:=s) (b:=b) (x:=some (mM (gS s b ((bV b).length+1) z []))) hm0 hf9 hf4 hf5 hf10
  have hn9:=hK.one.n9
  (try apply wO pk;rfl);(repeat' first|apply uM 28;rfl;exact aA _ _ _|refine aC ?_;exact ⟨_,_,st,rfl,zwr _,hsub,rfl,rfl⟩|show Cn _;constructor|apply wC pk;rfl;rfl|apply wE pk;rfl;rfl|refine aB rfl ?_ ?_<;>intro h<;>(try simp at h)<;>try omega|(apply aH;rfl;rfl;rfl;(intro _;apply hg<;>first|assumption|omega);rotate_left;rfl;rfl)|apply ldR pk;rfl;rfl;rotate_left;rfl;(first|exact aA _ _ _|(focus ((repeat (first|exact aA _ _ _|assumption|refine (aD ‹_›).trans ?_));done)));rfl;rfl|(apply cD;rfl;rfl;(apply hC<;>first|exact aA _ _ _|assumption|omega|(fail));rfl;rfl;rfl;intro _ st' hR;obtain rfl:=hR))
 ·have hz2:(eD (aN b z.1) z.2).isSome=false:=by simpa [acG] using hz
  rw [zn hz]
  rw [hz2] at hg
  refine aG aF Tryz.func237 (by kernel_rfl) rfl rfl rfl rfl (λst=> ?_)
  focus ((try apply wO pk;rfl);(repeat' first|(apply mkM (enc:=mU) (f:=bF);rfl;intro idm hidm)|show Cn _;constructor|apply wE pk;rfl;rfl|apply stR pk;rfl;rfl;(exact aA _ _ _);rfl;rfl|(apply fL 9;rfl;rfl;intro id9 hid9)|(apply fL 4;rfl;rfl;intro id4 hid4)|(apply fL 5;rfl;rfl;intro id5 hid5)|(apply fL 10;rfl;rfl;intro id10 hid10)))
  obtain ⟨⟨m1,m2,m3,m4⟩,⟨m5,m6,m7⟩,⟨m8,m9⟩,m10,f9,f4,f5,f10⟩:=abL hidm hid9 hid4 hid5 hid10
  have hm0:st idm=none:=hidm
  have hf9:st id9=none:=f9
  have hf4:st id4=none:=f4
  have hf5:st id5=none:=f5
  have hf10:st id10=none:=f10
  clear hidm hid9 hid4 hid5 hid10 f9 f4 f5 f10
  have hK:=aDY s b st m1 m2 m3 m4 m5 m6 m7 m8 m9 m10
  have hS9:=hK.one.h9
  have hn5:=Ne.symm m10
  have hSm:=hK.three
  have hsub:=aBj (s:=s) (b:=b) (x:=some (mM [])) hm0 hf9 hf4 hf5 hf10
  rw [hK.two] at hsub
  have hn9:=hK.one.n9
  (try apply wO pk;rfl);(repeat' first|apply uM 28;rfl;exact hSm|refine aC ?_;exact ⟨_,_,st,rfl,zwr _,hsub,rfl,rfl⟩|show Cn _;constructor|apply wC pk;rfl;rfl|apply wE pk;rfl;rfl|refine aB rfl ?_ ?_<;>intro h<;>(try simp at h)<;>try omega|(apply aH;rfl;rfl;rfl;(intro _;apply hg<;>first|assumption|omega);rotate_left;rfl;rfl)|apply ldR pk;rfl;rfl;rotate_left;rfl;(first|assumption|(focus ((repeat (first|exact aA _ _ _|refine (aD ‹_›).trans ?_));done)));rfl;rfl)
theorem anS (l:List Cl) (st:aI) (hl:l.length<1000000000000):PC Tryz.prog 158 [.seq (l.map Cl.cells)] st (LR 80 5 st (l.map Cl.cells)):=by
 refine cB aF Tryz.func158 (by kernel_rfl) rfl rfl rfl rfl ?_
 (try apply wO pk;rfl);(repeat' first|show Cn _;constructor|apply wC pk;rfl;rfl|apply wE pk;rfl;rfl|refine aB rfl ?_ ?_<;>intro h<;>(try simp at h)<;>try omega|((try refine aC ?_);((refine ⟨_,_,_,rfl,zwr _,zsr _, ?_⟩;((first|exact .inr ⟨rfl,hb h,zsr _⟩|exact .inl ⟨id',by rw [zql],hid',aA _ _ _,cY hid'⟩));done)))|(apply ap0 pk (f:=Cl.cells) l 64;(iterate 10 rfl);exact λ_=>rfl;exact λ_=>rfl;exact aqJ;(omega);(omega);rfl;intro id' hid')|(apply aAe pk;(iterate 6 rfl);intro b hb))
theorem acU (l:List Cl) (st:aI) (hl:l.length<1000000000000):PC Tryz.prog 158 [.seq (l.map Cl.cells)] st λp S=>∃id,p= .vec id 5 0 l.length/\st id=none/\S=upd st id (some (.arr 80 (l.map Cl.cells))):=
 vS (aaI (anS l st hl)) λp st' ⟨id,h1,h2,h3⟩=>⟨p,st',zwr _,zsr _,id,by rw [h1,zql],h2,h3⟩
end
section
attribute [local irreducible] Ev PWp
set_option maxRecDepth 10000
set_option maxHeartbeats 4000000
section
variable {l:List Oper} {d:Md} {r:List Oper} {s:St} {Kt:St->Prop} {t:Nat} {ty:TypeId} {pos:String} {after:Array Edge} {gd:Option (Nat×Bool)}
theorem lkS {T e:TypeId} {x y:Operand} {w:Bool} {M:List R2} {k:R2} (hw:bJ l ⟨some t, .lookup T x y false,ty,pos,after,gd⟩ s=some w) (hx:opd s x=some (.fmap (aY mU bF (mE M)))) (hy:opd s y=some (.agg (r2C k))) (hT:tiK tt T=some (.map 96 e)) (hz:pzv tt e=some (PV.val (Value.bool (false)))) (hf:All (flagsI s w [x,y] [])) (hd:Nat.blt t s.n=true)
  (ht:cQ d l r=true) (kk:Ev Tryz.prog l d r (s.put (some t) w (.pv (PV.val (Value.bool (inR M k))))) Kt):Ev Tryz.prog l d (⟨some t, .lookup T x y false,ty,pos,after,gd⟩::r) s Kt:=by
 refine aG2 pk asS (f:=bF) hw hx hy hT hz hf hd ht rfl ?_
 have e:kZ (PV.val (Value.bool (false))) bF false (bW k (mE M))=(PV.val (Value.bool (inR M k))):=by
  by_cases h:k∈M
  ·rw [agJ h];unfold inR;rw [decide_eq_true h];rfl
  ·rw [abH h];unfold inR;rw [decide_eq_false h];rfl
 rw [e];exact kk
end
def tQ (t:Tb) (G:R2->Bool) (l:Ln):Bool:=t.foreign.all λf=> !eF G l f||decide (f.act=2)
def ayD (t:Tb) (G:R2->Bool) (l:Ln):Bool:=t.foreign.any (eF G l)
def eN (p:Fr->Bool) (fs:List Fr) (cs:List Cl):List Cl:=cs.mapIdx λc x=>if fs.any (λf=>decide (f.col=(c:Int))&&p f)=true then Cl.zero else x
def kU (t:Tb) (G:R2->Bool) (who:Dt) (l:Ln):Ln:=if ayD t G l=true then ⟨l.key,eN (eF G l) t.foreign l.cells_,(dE l who).by_⟩ else l
theorem dG (p:Fr->Bool) (fs:List Fr) (cs:List Cl):(eN p fs cs).length=cs.length:=by simp [eN]
theorem nQ {p:Fr->Bool} {fs:List Fr} {cs:List Cl} {j:Nat} (h:j<cs.length):(eN p fs cs)[j]'(by rw [dG];exact h)=if fs.any (λf=>decide (f.col=(j:Int))&&p f)=true then Cl.zero else cs[j]:=by simp [eN]
theorem aCz {p:Fr->Bool} {fs:List Fr} {cs:List Cl} (h:fs.any p=false):eN p fs cs=cs:=by
 refine List.ext_getElem (dG ..) λj h1 h2=> ?_
 rw [nQ h2,zn]
 intro q
 obtain ⟨f,hf,e⟩:=List.any_eq_true.1 q
 rw [zba] at e
 rw [List.any_eq_true.2 ⟨f,hf,e.2⟩] at h;cases h
theorem aDF {p:Fr->Bool} {fs:List Fr} {cs:List Cl} {i j:Nat} (hi:i<fs.length) (hp:p fs[i]=true) (hj:j<cs.length) (hc:fs[i].col=(j:Int)):eN p (fs.take (i+1)) cs=(eN p (fs.take i) cs).set j Cl.zero:=by
 refine List.ext_getElem (by rw [List.length_set,dG,dG]) λc h1 h2=> ?_
 rw [dG] at h1
 rw [nQ h1,List.getElem_set,List.take_succ_eq_append_getElem hi,List.any_append]
 by_cases e:j=c
 ·subst e
  rw [zp rfl,zp]
  simp [hc,hp]
 ·rw [zn e,nQ h1]
  have:([fs[i]].any λf=>decide (f.col=(c:Int))&&p f)=false:=by
   simp only [List.any_cons,List.any_nil,Bool.or_false,hc]
   rw [decide_eq_false (by omega)];rfl
  rw [this,Bool.or_false]
theorem auG {p:Fr->Bool} {fs:List Fr} {cs:List Cl} {i:Nat} (hi:i<fs.length) (hp:p fs[i]=false):eN p (fs.take (i+1)) cs=eN p (fs.take i) cs:=by
 have e:∀c:Nat,((fs.take (i+1)).any λf=>decide (f.col=(c:Int))&&p f)=(fs.take i).any λf=>decide (f.col=(c:Int))&&p f:=λc=>by
  rw [List.take_succ_eq_append_getElem hi,List.any_append]
  simp only [List.any_cons,List.any_nil,hp,Bool.and_false,Bool.or_false]
 unfold eN
 simp only [e]
theorem aAU {p:Fr->Bool} {fs:List Fr} {i:Nat} (hi:i<fs.length):(fs.take (i+1)).any p=((fs.take i).any p||p fs[i]):=by
 rw [List.take_succ_eq_append_getElem hi,List.any_append];simp
def lnV (l:Ln) (who:Dt):Option Nat->List PV
 |none=>l.cells
 |some id=>[(PV.val (Value.int .i64 (l.key))), .vec id 5 0 l.cells_.length, .seq ((dE l who).by_.map Dt.cells)]
def stO (st:aI) (cs:List Cl):Option Nat->aI
 |none=>st
 |some id=>upd st id (some (.arr 80 (cs.map Cl.cells)))
theorem akC (l:Ln) (d:Dt):(dE l d).cells_=l.cells_/\(dE l d).key=l.key:=by
 unfold dE
 split<;>exact ⟨rfl,rfl⟩
theorem aCK (l:Ln) (cs:List Cl) (bys:List Dt) (c:Int) {st:aI} {id n:Nat} (hst:st id=some (.arr 80 (cs.map Cl.cells))) (hn:cs.length=n) (h0:0<n) (h:xH ⟨l.key,cs,bys⟩ c):PC Tryz.prog 311 [.agg [(.val (.int .i64 l.key)), .vec id 5 0 n, .seq (bys.map Dt.cells)],(.val (.int .i64 c))] st λr S=>r=ptR (ptP ⟨l.key,cs,bys⟩ c)/\S=st:=
 PC.borrow 0 hst yI (by simpa [hn] using h0) (.cons (.agg (.cons .refl (.cons (gL hn) (.cons .refl .nil)))) (.cons .refl .nil)) (WkL.refl _) (oV ⟨l.key,cs,bys⟩ c h) (by cases ptP ⟨l.key,cs,bys⟩ c<;>rfl)
theorem aqA {l:Ln} {c k:Int} (h:ptP l c=some k):∃j:Nat,c=j/\j<l.cells_.length:=by
 by_cases hc:0<=c/\c<l.cells_.length
 ·exact ⟨c.toNat,by omega,by omega⟩
 ·rw [aeX hc] at h;cases h
theorem aCk {l:Ln} {p:Fr->Bool} {fs:List Fr} {c:Int} {bys:List Dt} (h:∀f∈fs,f.col≠c):ptP ⟨l.key,eN p fs l.cells_,bys⟩ c=ptP l c:=by
 by_cases hc:0<=c/\c<l.cells_.length
 ·obtain ⟨j,rfl⟩:∃j:Nat,c=j:=⟨c.toNat,by omega⟩
  have hj:j<l.cells_.length:=by omega
  have hj2:j<(eN p fs l.cells_).length:=by rw [dG];exact hj
  rw [aoC hj,aoC (l:=⟨l.key,eN p fs l.cells_,bys⟩) hj2]
  have e:(eN p fs l.cells_)[j]=l.cells_[j]:=by
   rw [nQ hj,zn]
   intro q
   obtain ⟨f,hf,e⟩:=List.any_eq_true.1 q
   rw [zba,zde] at e
   exact h f hf e.1
  show (if (eN p fs l.cells_)[j].val.kind=1 then some (eN p fs l.cells_)[j].val.n else none)=_
  rw [e]
 ·rw [aeX hc,aeX]
  show ¬(0<=c/\c<(eN p fs l.cells_).length)
  rwa [dG]
theorem aCq {l:Ln} {p:Fr->Bool} {fs:List Fr} {c:Int} {bys:List Dt} (h:xH l c):xH ⟨l.key,eN p fs l.cells_,bys⟩ c:=λj hj e=>by
 have hj2:j<(eN p fs l.cells_).length:=hj
 rw [dG] at hj2
 show (eN p fs l.cells_)[j].kind=0
 rw [nQ hj2]
 split
 ·rfl
 ·exact h j hj2 e
theorem aE5 {p:Fr->Bool} {fs:List Fr} {i:Nat} {f:Fr} (hI:∀j (h:j<fs.length),j<i->p fs[j]=true) (h:i<fs.length) (e:fs[i]=f) (hf:p f=true):∀j (h:j<fs.length),j<i+1->p fs[j]=true:=λj hj hji=>by
 rcases zls.1 hji with q|q
 ·exact hI j hj q
 ·subst q;rw [e];exact hf
theorem wkz :Wk (.agg [(PV.val (Value.int .i64 (0))),(PV.val (Value.int .i64 (0))),(PV.val (Value.int .i64 (0))), .val (.string e0), .val (.slice none 0 0)]) (.agg Cl.zero.cells):= .agg (.cons (zwr _) (.cons (zwr _) (.cons (zwr _) (.cons (zwr _) (.cons Wk.nil .nil)))))
def aFS (st:aI) (t:Tb) (l:Ln) (M:List R2) (who:Dt) (r:PV) (S:aI):Prop:=
 (tQ t (inR M) l=false/\r= .tup [.agg [(PV.val (Value.int .i64 (0))), .val (.slice none 0 0), .val (.slice none 0 0)],(PV.val (Value.bool (false)))]/\StSub st S)\/(tQ t (inR M) l=true/\ayD t (inR M) l=false/\r= .tup [.agg l.cells,(PV.val (Value.bool (true)))]/\S=st)\/
 (tQ t (inR M) l=true/\ayD t (inR M) l=true/\∃id,r= .tup [.agg (lnV l who (some id)),(PV.val (Value.bool (true)))]/\st id=none/\S=upd st id (some (.arr 80 ((eN (eF (inR M) l) t.foreign l.cells_).map Cl.cells))))
theorem aB3 (t:Tb) (l:Ln) (M:List R2) (who:Dt) (hf:t.foreign.length<1000000000000) (hc:l.cells_.length<1000000000000) (hb:l.by_.length<100000000000) (hR:∀f∈t.foreign,xH l f.col) (hD:∀i j (hi:i<t.foreign.length) (hj:j<t.foreign.length),t.foreign[i].col=t.foreign[j].col->i=j) (st:aI):
  PC Tryz.prog 238 [.agg t.cells, .agg l.cells, .fmap (aY mU bF (mE M)), .agg who.cells] st (aFS st t l M who):=by
 have hw:=aaB l who hb
 obtain ⟨w1,w2⟩:=akC l who
 have ew:(dE l who).cells=[(PV.val (Value.int .i64 (l.key))), .seq (l.cells_.map Cl.cells), .seq ((dE l who).by_.map Dt.cells)]:=by show [(PV.val (Value.int .i64 ((dE l who).key))), .seq ((dE l who).cells_.map Cl.cells),_]=_;rw [w1,w2]
 rw [ew] at hw
 have hcl:=acU l.cells_
 refine cB aF Tryz.func238 (by kernel_rfl) rfl rfl rfl rfl ?_
 focus ((try apply wO pk;rfl);(repeat' ((show Cn _;constructor))))
 refine aK (X:={x:Nat×Option Nat//x.1<=t.foreign.length/\(∀j (h:j<t.foreign.length),j<x.1->(!eF (inR M) l t.foreign[j]||decide (t.foreign[j].act=2))=true)/\x.2.isSome=(t.foreign.take x.1).any (eF (inR M) l)/\∀id,x.2=some id->st id=none}) (λi=>(((((((((St.nil 61 (stO st (eN (eF (inR M) l) (t.foreign.take i.1.1) l.cells_) i.1.2)).pv 2 (.fmap (aY mU bF (mE M)))).var 5 67 (lnV l who i.1.2)).var 7 59 (who.cells)).var 8 67 ([(PV.val (Value.int .i64 (0))), .val (.slice none 0 0), .val (.slice none 0 0)])).pv 10 ((PV.val (Value.bool (i.1.2.isSome))))).pv 16 (.seq (t.foreign.map Fr.cells))).pv 17 ((PV.val (Value.int .i64 (((t.foreign.map Fr.cells).length:Nat)))))).pv 18 ((PV.val (Value.int .i64 ((i.1.1:Nat))))))) (λi=>t.foreign.length-i.1.1) ⟨(0,none),by simp,by simp,by simp,by simp⟩ ?_ (λi=> ?_)
 ·dsimp only [stO,lnV,Option.isSome]
  (((repeat (first|refine Sub.pv ?_ rfl|refine Sub.var ?_ rfl rfl));(exact Sub.nil _ _ _ (zsr _) rfl)))
 obtain ⟨⟨i,o⟩,hi,hI,ho,hid⟩:=i
 simp only at hi hI ho hid
 dsimp only
 by_cases hend:t.foreign.length<=i
 ·have e1:tQ t (inR M) l=true:=zal.2 λf hf=>by
   obtain ⟨j,hj,rfl⟩:=zgo hf
   exact hI j hj (by omega)
  rw [ztl hend] at ho⊢
  cases o with
  |none=>
   dsimp only [stO,lnV,Option.isSome] at ho⊢
   have e2:ayD t (inR M) l=false:=ho.symm
   (try apply wO pk;rfl);(repeat' first|show Cn _;constructor|apply wC pk;rfl;rfl|refine aB rfl ?_ ?_<;>intro h<;>(try simp at h)<;>try omega|(try refine aC ?_);((refine ⟨_,_,_,rfl,zwr _,zsr _, ?_⟩;(exact .inr (.inl ⟨e1,e2,rfl,rfl⟩));done)))
  |some id=>
   dsimp only [stO,lnV,Option.isSome] at ho⊢
   have e2:ayD t (inR M) l=true:=ho.symm
   have hid:=hid id rfl
   (try apply wO pk;rfl);(repeat' first|show Cn _;constructor|apply wC pk;rfl;rfl|refine aB rfl ?_ ?_<;>intro h<;>(try simp at h)<;>try omega|(try refine aC ?_);((refine ⟨_,_,_,rfl,zwr _,zsr _, ?_⟩;(exact .inr (.inr ⟨e1,e2,id,rfl,hid,rfl⟩));done)))
 have hil:i<t.foreign.length:=by omega
 have hRf:=hR _ (zgm hil)
 have hsn:=aAU (p:=eF (inR M) l) hil
 have hsame:=auG (p:=eF (inR M) l) (cs:=l.cells_) hil
 have hup:=λj=>aDF (p:=eF (inR M) l) (cs:=l.cells_) (j:=j) hil
 have hne:∀f∈t.foreign.take i,f.col≠t.foreign[i].col:=λf hf e=>by
  obtain ⟨j,hj,rfl⟩:=zgo hf
  rw [zlt] at hj
  rw [List.getElem_take] at e
  have:=hD j i (by omega) hil e
  omega
 have hbad:(!eF (inR M) l t.foreign[i]||decide (t.foreign[i].act=2))=false->tQ t (inR M) l=false:=λh=>by
  unfold tQ
  rw [<-Bool.not_eq_true,zal]
  intro q
  rw [q _ (zgm hil)] at h;cases h
 obtain ⟨f,hfe⟩:∃f,t.foreign[i]=f:=⟨_,rfl⟩
 have hAU:=λh=>aE5 (p:=λf=> !eF (inR M) l f||decide (f.act=2)) hI hil hfe h
 rw [hfe] at hRf hsn hsame hne hbad hup
 have hgf:(t.foreign.map Fr.cells)[i]?=some f.cells:=by rw [List.getElem?_map,zgg hil,hfe];rfl
 cases o with
 |none=>
  dsimp only [stO,lnV,Option.isSome] at ho⊢
  have hp:=oV l f.col hRf
  cases hpt:ptP l f.col with
  |none=>
   have hh:eF (inR M) l f=false:=aeC hpt
   have hU:=hAU (by rw [hh];rfl)
   have ho2:(none:Option Nat).isSome=(t.foreign.take (i+1)).any (eF (inR M) l):=by rw [hsn,hh,Bool.or_false];exact ho
   rw [hpt] at hp
   (try apply wO pk;rfl);(repeat' first|apply lkS (M:=M) (k:=(f.table,0));(iterate 5 rfl);rotate_left;rfl;rfl|show Cn _;constructor|apply wC pk;rfl;rfl|apply wE pk;rfl;rfl|refine aB rfl ?_ ?_<;>intro h<;>(try simp at h)<;>try omega|(apply aH;rfl;rfl;rfl;(intro _;apply hp<;>first|assumption|omega);rotate_left;rfl;rfl)|apply aP pk;(iterate 6 rfl);rotate_left;rfl;(intro hw;rfl);(intro hw;apply hgf<;>omega);(intro _;rfl);rfl|(refine ⟨⟨(i+1,none),by simp only;omega,hU,ho2,by simp⟩, ?_,by simp only;omega⟩;(((repeat (first|refine Sub.pv ?_ rfl|refine Sub.var ?_ rfl rfl));(exact Sub.nil _ _ _ (zsr _) rfl))))|intros;(try simp only [zql]);omega)
  |some k=>
   rw [hpt] at hp
   have hh:eF (inR M) l f=inR M (f.table,k):=adT hpt
   cases hG:inR M (f.table,k) with
   |false=>
    rw [hG] at hh
    have hU:=hAU (by rw [hh];rfl)
    have ho2:(none:Option Nat).isSome=(t.foreign.take (i+1)).any (eF (inR M) l):=by rw [hsn,hh,Bool.or_false];exact ho
    (try apply wO pk;rfl);(repeat' first|apply lkS (M:=M) (k:=(f.table,k));(iterate 5 rfl);rotate_left;rfl;rfl;rw [hG]|show Cn _;constructor|apply wC pk;rfl;rfl|apply wE pk;rfl;rfl|refine aB rfl ?_ ?_<;>intro h<;>(try simp at h)<;>try omega|(apply aH;rfl;rfl;rfl;(intro _;apply hp<;>first|assumption|omega);rotate_left;rfl;rfl)|apply aP pk;(iterate 6 rfl);rotate_left;rfl;(intro hw;rfl);(intro hw;apply hgf<;>omega);(intro _;rfl);rfl|(refine ⟨⟨(i+1,none),by simp only;omega,hU,ho2,by simp⟩, ?_,by simp only;omega⟩;(((repeat (first|refine Sub.pv ?_ rfl|refine Sub.var ?_ rfl rfl));(exact Sub.nil _ _ _ (zsr _) rfl))))|intros;(try simp only [zql]);omega)
   |true=>
    rw [hG] at hh
    by_cases ha:f.act=2
    ·have hU:=hAU (by rw [hh,decide_eq_true ha];rfl)
     obtain ⟨j,hj,hjl⟩:=aqA hpt
     have hn0:eN (eF (inR M) l) (t.foreign.take i) l.cells_=l.cells_:=aCz ho.symm
     have e1:eN (eF (inR M) l) (t.foreign.take (i+1)) l.cells_=l.cells_.set j Cl.zero:=by rw [hup j hh hjl hj,hn0]
     have ho2:∀id:Nat,(some id).isSome=(t.foreign.take (i+1)).any (eF (inR M) l):=λid=>by rw [hsn,hh,Bool.or_true];rfl
     have hgj:(l.cells_.map Cl.cells)[j]?=some (l.cells_[j]'hjl).cells:=by rw [List.getElem?_map,zgg hjl];rfl
     (try apply wO pk;rfl);(repeat' first|apply lkS (M:=M) (k:=(f.table,k));(iterate 5 rfl);rotate_left;rfl;rfl;rw [hG]|show Cn _;constructor|apply wC pk;rfl;rfl|apply wE pk;rfl;rfl|refine aB rfl ?_ ?_<;>intro h<;>(try simp at h)<;>try omega|(apply aH;rfl;rfl;rfl;(intro _;(first|apply hp|apply hw)<;>first|assumption|omega);rotate_left;rfl;rfl)|apply aP pk;(iterate 6 rfl);rotate_left;rfl;(intro hw;rfl);(intro hw;apply hgf<;>omega);(intro _;rfl);rfl|apply ixA pk;(iterate 5 rfl);rotate_left;rfl;(intro hw;(exact (show _=((j:Nat):Int) from by omega)));(intro hw;(omega));rfl;(exact Nat.zero_add _)|(apply cD;rfl;rfl;(apply (hcl st hc)<;>first|exact aA _ _ _|assumption|omega|(fail));rfl;rfl;rfl;intro _ st' hR;obtain ⟨id,rfl,hid0,rfl⟩:=hR)|apply aDU 57;rfl;exact wkz|apply stX pk;rfl;rfl;exact aA _ _ _;rfl;exact hgj;rfl;rfl|(refine ⟨⟨(i+1,some id),by simp only;omega,hU,ho2 id,λ_ h=>by cases h;exact hid0⟩, ?_,by simp only;omega⟩;((dsimp only [stO,lnV,Option.isSome];rw [e1,List.map_set]));(((repeat (first|refine Sub.pv ?_ rfl|refine Sub.var ?_ rfl rfl));(exact Sub.nil _ _ _ (eY (by first|rfl|exact fV ‹_›|((simp only [St.pv,St.put,St.sst,St.setv,St.nil,St.var,fG]);first|done|rfl))) rfl))))|intros;(try simp only [zql]);omega)
    ·have hb:=hbad (by rw [hh,decide_eq_false ha];rfl)
     (try apply wO pk;rfl);(repeat' first|apply lkS (M:=M) (k:=(f.table,k));(iterate 5 rfl);rotate_left;rfl;rfl;rw [hG]|show Cn _;constructor|apply wC pk;rfl;rfl|apply wE pk;rfl;rfl|refine aB rfl ?_ ?_<;>intro h<;>(try simp at h)<;>try omega|(try refine aC ?_);((refine ⟨_,_,_,rfl,zwr _,zsr _, ?_⟩;(exact .inl ⟨hb,rfl,zsr _⟩);done))|(apply aH;rfl;rfl;rfl;(intro _;apply hp<;>first|assumption|omega);rotate_left;rfl;rfl)|apply aP pk;(iterate 6 rfl);rotate_left;rfl;(intro hw;rfl);(intro hw;apply hgf<;>omega);(intro _;rfl);rfl)
 |some id=>
  dsimp only [stO,lnV,Option.isSome] at ho⊢
  have hid0:=hid id rfl
  have h0:0<l.cells_.length:=by
   obtain ⟨f',_,hf'⟩:=List.any_eq_true.1 ho.symm
   obtain ⟨k,hk,_⟩:=zN.1 hf'
   obtain ⟨j,_,hj⟩:=aqA hk
   omega
  have hlenN:(eN (eF (inR M) l) (t.foreign.take i) l.cells_).length=l.cells_.length:=dG ..
  have hp:=aCK l (eN (eF (inR M) l) (t.foreign.take i) l.cells_) (dE l who).by_ f.col (st:=upd st id (some (.arr 80 ((eN (eF (inR M) l) (t.foreign.take i) l.cells_).map Cl.cells)))) (id:=id) (aA _ _ _) hlenN h0 (aCq hRf)
  rw [aCk hne] at hp
  have ho2:(some id).isSome=(t.foreign.take (i+1)).any (eF (inR M) l):=by rw [hsn,<-ho];rfl
  cases hpt:ptP l f.col with
  |none=>
   have hh:eF (inR M) l f=false:=aeC hpt
   have hU:=hAU (by rw [hh];rfl)
   have e1:=hsame hh
   rw [hpt] at hp
   (try apply wO pk;rfl);(repeat' first|apply lkS (M:=M) (k:=(f.table,0));(iterate 5 rfl);rotate_left;rfl;rfl|show Cn _;constructor|apply wC pk;rfl;rfl|apply wE pk;rfl;rfl|refine aB rfl ?_ ?_<;>intro h<;>(try simp at h)<;>try omega|apply aP pk;(iterate 6 rfl);rotate_left;rfl;(intro hw;rfl);(intro hw;apply hgf<;>omega);(intro _;rfl);rfl|(apply cD;rfl;rfl;(apply hp<;>first|exact aA _ _ _|assumption|omega|(fail));rfl;rfl;rfl;intro _ st' hR;obtain ⟨rfl,rfl⟩:=hR)|(refine ⟨⟨(i+1,some id),by simp only;omega,hU,ho2,λ_ h=>by cases h;exact hid0⟩, ?_,by simp only;omega⟩;((dsimp only [stO,lnV,Option.isSome];rw [e1]));(((repeat (first|refine Sub.pv ?_ rfl|refine Sub.var ?_ rfl rfl));(exact Sub.nil _ _ _ (zsr _) rfl))))|intros;(try simp only [zql]);omega)
  |some k=>
   rw [hpt] at hp
   have hh:eF (inR M) l f=inR M (f.table,k):=adT hpt
   cases hG:inR M (f.table,k) with
   |false=>
    rw [hG] at hh
    have hU:=hAU (by rw [hh];rfl)
    have e1:=hsame hh
    (try apply wO pk;rfl);(repeat' first|apply lkS (M:=M) (k:=(f.table,k));(iterate 5 rfl);rotate_left;rfl;rfl;rw [hG]|show Cn _;constructor|apply wC pk;rfl;rfl|apply wE pk;rfl;rfl|refine aB rfl ?_ ?_<;>intro h<;>(try simp at h)<;>try omega|apply aP pk;(iterate 6 rfl);rotate_left;rfl;(intro hw;rfl);(intro hw;apply hgf<;>omega);(intro _;rfl);rfl|(apply cD;rfl;rfl;(apply hp<;>first|exact aA _ _ _|assumption|omega|(fail));rfl;rfl;rfl;intro _ st' hR;obtain ⟨rfl,rfl⟩:=hR)|(refine ⟨⟨(i+1,some id),by simp only;omega,hU,ho2,λ_ h=>by cases h;exact hid0⟩, ?_,by simp only;omega⟩;((dsimp only [stO,lnV,Option.isSome];rw [e1]));(((repeat (first|refine Sub.pv ?_ rfl|refine Sub.var ?_ rfl rfl));(exact Sub.nil _ _ _ (zsr _) rfl))))|intros;(try simp only [zql]);omega)
   |true=>
    rw [hG] at hh
    by_cases ha:f.act=2
    ·have hU:=hAU (by rw [hh,decide_eq_true ha];rfl)
     obtain ⟨j,hj,hjl⟩:=aqA hpt
     have e1:=hup j hh hjl hj
     have hjn:j<(eN (eF (inR M) l) (t.foreign.take i) l.cells_).length:=by rw [hlenN];exact hjl
     have hgj:((eN (eF (inR M) l) (t.foreign.take i) l.cells_).map Cl.cells)[j]?=some ((eN (eF (inR M) l) (t.foreign.take i) l.cells_)[j]'hjn).cells:=by rw [List.getElem?_map,zgg hjn];rfl
     (try apply wO pk;rfl);(repeat' first|apply lkS (M:=M) (k:=(f.table,k));(iterate 5 rfl);rotate_left;rfl;rfl;rw [hG]|show Cn _;constructor|apply wC pk;rfl;rfl|apply wE pk;rfl;rfl|refine aB rfl ?_ ?_<;>intro h<;>(try simp at h)<;>try omega|apply aP pk;(iterate 6 rfl);rotate_left;rfl;(intro hw;rfl);(intro hw;apply hgf<;>omega);(intro _;rfl);rfl|apply ixA pk;(iterate 5 rfl);rotate_left;rfl;(intro hw;(exact (show _=((j:Nat):Int) from by omega)));(intro hw;(omega));rfl;(exact Nat.zero_add _)|(apply cD;rfl;rfl;(apply hp<;>first|exact aA _ _ _|assumption|omega|(fail));rfl;rfl;rfl;intro _ st' hR;obtain ⟨rfl,rfl⟩:=hR)|apply aDU 57;rfl;exact wkz|apply stX pk;rfl;rfl;exact aA _ _ _;rfl;exact hgj;rfl;rfl|(refine ⟨⟨(i+1,some id),by simp only;omega,hU,ho2,λ_ h=>by cases h;exact hid0⟩, ?_,by simp only;omega⟩;((dsimp only [stO,lnV,Option.isSome];rw [e1,List.map_set]));(((repeat (first|refine Sub.pv ?_ rfl|refine Sub.var ?_ rfl rfl));(exact Sub.nil _ _ _ (eY (by first|rfl|exact fV ‹_›|((simp only [St.pv,St.put,St.sst,St.setv,St.nil,St.var,fG]);first|done|rfl))) rfl))))|intros;(try simp only [zql]);omega)
    ·have hb:=hbad (by rw [hh,decide_eq_false ha];rfl)
     (try apply wO pk;rfl);(repeat' first|apply lkS (M:=M) (k:=(f.table,k));(iterate 5 rfl);rotate_left;rfl;rfl;rw [hG]|show Cn _;constructor|apply wC pk;rfl;rfl|apply wE pk;rfl;rfl|refine aB rfl ?_ ?_<;>intro h<;>(try simp at h)<;>try omega|(try refine aC ?_);((refine ⟨_,_,_,rfl,zwr _,zsr _, ?_⟩;(exact .inl ⟨hb,rfl,aL hid0⟩);done))|apply aP pk;(iterate 6 rfl);rotate_left;rfl;(intro hw;rfl);(intro hw;apply hgf<;>omega);(intro _;rfl);rfl|(apply cD;rfl;rfl;(apply hp<;>first|exact aA _ _ _|assumption|omega|(fail));rfl;rfl;rfl;intro _ st' hR;obtain ⟨rfl,rfl⟩:=hR))
def azB (t:Tb) (G:R2->Bool) (who:Dt) (l:Ln):PV:=if tQ t G l=true then .tup [.agg (kU t G who l).cells,(PV.val (Value.bool (true)))] else .tup [.agg Ln.zero.cells,(PV.val (Value.bool (false)))]
theorem auZ (t:Tb) (l:Ln) (M:List R2) (who:Dt) (hf:t.foreign.length<1000000000000) (hc:l.cells_.length<1000000000000) (hb:l.by_.length<100000000000) (hR:∀f∈t.foreign,xH l f.col) (hD:∀i j (hi:i<t.foreign.length) (hj:j<t.foreign.length),t.foreign[i].col=t.foreign[j].col->i=j):
  PF Tryz.prog 238 [.agg t.cells, .agg l.cells, .fmap (aY mU bF (mE M)), .agg who.cells] (azB t (inR M) who l):=λst=>
 gN (sz:=5) (aB3 t l M who hf hc hb hR hD st) λp st' h=>by
  unfold azB
  rcases h with ⟨h1,rfl,h2⟩|⟨h1,h2,rfl,rfl⟩|⟨h1,h2,id,rfl,h3,rfl⟩
  ·rw [zn (by rw [h1];simp)]
   exact .inr ⟨_,_,Wk.tup (.cons (.agg (.cons (zwr _) (.cons Wk.nil (.cons Wk.nil .nil)))) (.cons (zwr _) .nil)),h2,rfl,rfl⟩
  ·rw [zp h1]
   unfold kU
   rw [zn (by rw [h2];simp)]
   exact .inr ⟨_,_,zwr _,zsr _,rfl,rfl⟩
  ·rw [zp h1]
   unfold kU
   rw [zp h2]
   exact .inl ⟨id,80,(eN (eF (inR M) l) t.foreign l.cells_).map Cl.cells,_,st,aA _ _ _,yI, .tup (.cons (.agg (.cons .refl (.cons (gL (dG ..)) (.cons .refl .nil)))) (.cons .refl .nil)),cY h3,rfl,rfl⟩
end
section
attribute [local irreducible] Ev PWp
set_option maxRecDepth 10000
set_option maxHeartbeats 4000000
theorem aDg (s:Sc) (hl:s.length<1000000000000) (st:aI):PC Tryz.prog 27 [.agg (scC s)] st λr S=>∃id,r= .agg [.vec id 1 0 s.length]/\st id=none/\S=upd st id (some (.arr 86 ((List.replicate s.length ()).map zM))):=by
 refine cB aF Tryz.func27 (by kernel_rfl) rfl rfl rfl rfl ?_
 (try apply wO pk;rfl);(repeat' first|show Cn _;constructor|apply wE pk;rfl;rfl|(try refine aC ?_);((refine ⟨_,_,_,rfl,zwr _,zsr _, ?_⟩;(exact ⟨id,rfl,hid,rfl⟩);done))|(apply aGi pk () (f:=zM) (n:=s.length) (B:=24);(iterate 11 rfl);(focus (simp;done));(focus (simp;done));exact aeW;omega;omega;intro id hid))
def jO (n k:Nat) (f:Nat->List Ln):List (List PV):=(List.range n).map λj=>if j<k then [.seq ((f j).map Ln.cells)] else [.val (.slice none 0 0)]
theorem apN (n:Nat) (f:Nat->List Ln):jO n 0 f=(List.replicate n ()).map zM:=by
 refine List.ext_getElem (by simp [jO]) λj h1 h2=> ?_
 simp [jO,zM]
theorem axF {n k:Nat} (h:k<n) (f:Nat->List Ln):(jO n k f)[k]?=some [.val (.slice none 0 0)]:=by simp [jO,h]
theorem auS {n k:Nat} (f:Nat->List Ln):(jO n k f).set k [.seq ((f k).map Ln.cells)]=jO n (k+1) f:=by
 refine List.ext_getElem (by simp [jO]) λj h1 h2=> ?_
 rw [List.getElem_set]
 simp only [jO,List.getElem_map,List.getElem_range]
 by_cases e:k=j
 ·subst e;rw [zp rfl,zp (Nat.lt_succ_self _)]
 ·rw [zn e]
  by_cases h:j<k
  ·rw [zp h,zp (by omega)]
  ·rw [zn h,zn (by omega)]
theorem awB (n:Nat) (f:Nat->List Ln):jO n n f=((List.range n).map λj=>(⟨f j⟩:Da)).map Da.cells:=by
 unfold jO
 rw [List.map_map]
 refine List.map_congr_left λj hj=> ?_
 rw [zp (List.mem_range.1 hj)];rfl
theorem auY (n k:Nat) (f:Nat->List Ln):(jO n k f).length=n:=by simp [jO]
section
variable {st:aI} {idT idL id':Nat}
theorem axL {x a o:Option AObj} (h:idL≠idT):StSub (upd (upd st idL a) idT o) (upd (upd (upd st idT x) idL a) idT o):=eY (by rw [eU (Ne.symm h),fG])
theorem apT {a b b' o o1 o2:Option AObj} (h:st idL=none) (h1:idL≠idT) (eb:b'=b) (eo:o2=o1):StSub (upd (upd st id' b') idT o2) (upd (upd (upd (upd (upd st idL a) idT o) idL none) id' b) idT o1):=λj=>by
 subst eb;subst eo
 by_cases e1:j=idT
 ·subst e1;right;rw [aA,aA]
 ·rw [aD e1,aD e1]
  by_cases e2:j=id'
  ·subst e2;right;rw [aA,aA]
  ·rw [aD e2,aD e2]
   by_cases e3:j=idL
   ·subst e3;left;exact h
   ·right;rw [aD e3,aD e1,aD e3]
theorem atH {a o o1 o2:Option AObj} (h:st idL=none) (h1:idL≠idT) (eo:o2=o1):StSub (upd st idT o2) (upd (upd (upd (upd st idL a) idT o) idL none) idT o1):=λj=>by
 subst eo
 by_cases e1:j=idT
 ·subst e1;right;rw [aA,aA]
 ·rw [aD e1,aD e1]
  by_cases e3:j=idL
  ·subst e3;left;exact h
  ·right;rw [aD e3,aD e1,aD e3]
theorem anP {a o:Option AObj} (h:st idL=none) (h1:st idT=none):StSub st (upd (upd st idL a) idT o):=λj=>by
 cases hj:st j with
 |none=>exact .inl rfl
 |some x=>
  right
  rw [aD (λe=>by subst e;rw [h1] at hj;cases hj),aD (λe=>by subst e;rw [h] at hj;cases hj),hj]
theorem sH {a o:AObj} (h:upd (upd st idL (some a)) idT (some o) id'=none):idT≠id'/\st id'=none:=by
 by_cases e:id'=idT
 ·rw [e,aA] at h;cases h
 ·rw [aD e] at h
  refine ⟨Ne.symm e, ?_⟩
  by_cases e2:id'=idL
  ·rw [e2,aA] at h;cases h
  ·rwa [aD e2] at h
end
def oD (s:Sc) (b:Bs) (G:R2->Bool) (who:Dt) (k y:Nat):List Ln:=((b[k]!.lines.take y).filter λl=> !G ((k:Int),l.key)).map (kU s[k]! G who)
def qK (s:Sc) (b:Bs) (G:R2->Bool) (who:Dt) (k:Nat):List Ln:=(b[k]!.lines.filter λl=> !G ((k:Int),l.key)).map (kU s[k]! G who)
def xR (s:Sc) (b:Bs) (G:R2->Bool) (who:Dt):Bs:=(List.range b.length).map λk=>⟨qK s b G who k⟩
def zJ (t:Tb) (G:R2->Bool) (k:Nat) (l:Ln):Bool:=G ((k:Int),l.key)||tQ t G l
def aiJ (s:Sc) (b:Bs) (G:R2->Bool):Bool:=(List.range b.length).all λk=>b[k]!.lines.all (zJ s[k]! G k)
theorem aDm {s:Sc} {b:Bs} {G:R2->Bool} {who:Dt} {k y:Nat} (h:y<b[k]!.lines.length):oD s b G who k (y+1)=if G ((k:Int),b[k]!.lines[y].key)=true then oD s b G who k y else oD s b G who k y++[kU s[k]! G who b[k]!.lines[y]]:=by
 unfold oD
 rw [List.take_succ_eq_append_getElem h,List.filter_append,List.map_append,aaF]
 cases hg:G ((k:Int),b[k]!.lines[y].key)<;>simp
theorem azJ {s:Sc} {b:Bs} {G:R2->Bool} {who:Dt} {k:Nat}:oD s b G who k b[k]!.lines.length=qK s b G who k:=by unfold oD qK;rw [List.take_length]
theorem aAW (s:Sc) (b:Bs) (G:R2->Bool) (who:Dt) (k y:Nat):(oD s b G who k y).length<=b[k]!.lines.length:=by
 unfold oD
 rw [zql]
 exact Nat.le_trans (List.length_filter_le ..) (by rw [zlt];omega)
theorem aCa {s:Sc} {b:Bs} {G:R2->Bool} {k y:Nat} (hk:k<b.length) (hy:y<b[k].lines.length) (h:zJ s[k]! G k b[k].lines[y]=false):aiJ s b G=false:=by
 unfold aiJ
 rw [<-Bool.not_eq_true,zal]
 intro q
 have:=q k (List.mem_range.2 hk)
 rw [getElem!_pos b k hk] at this
 have:=zal.1 this _ (zgm hy)
 rw [h] at this;cases this
structure FolD (s:Sc) (b:Bs):Prop extends Fol s b where
 ln:∀k (h:k<b.length),b[k].lines.length<=100000
 cl:∀k (h:k<b.length),∀l∈b[k].lines,l.cells_.length<100000000000/\l.by_.length<100000000000
 cols:∀k (h:k<s.length),∀i j (hi:i<s[k].foreign.length) (hj:j<s[k].foreign.length),s[k].foreign[i].col=s[k].foreign[j].col->i=j
def aFQ (s:Sc) (b:Bs) (who:Dt) (M:List R2) (st:aI) (r:PV) (S:aI):Prop:=
 (aiJ s b (inR M)=false/\r= .tup [.agg [.val (.slice none 0 0)],(PV.val (Value.int .i64 (10)))]/\StSub st S)\/(aiJ s b (inR M)=true/\∃id,r= .tup [.agg [.vec id 1 0 b.length],(PV.val (Value.int .i64 (0)))]/\S id=some (.arr 86 ((xR s b (inR M) who).map Da.cells))/\StSub st (upd S id none))
theorem aD8 {s:Sc} {b:Bs} (hFo:FolD s b) (hr:PF Tryz.prog 19 [.agg (scC s), .agg (bsC b)] (.val (.bool true))) (z:R2) (who:Dt) (hz:acG b z=true) (st:aI):PC Tryz.prog 156 [.agg (scC s), .agg (bsC b),(.val (.int .i64 z.1)),(.val (.int .i64 z.2)), .agg who.cells] st (aFQ s b who (tG s b z) st):=by
 have hk:=ahG hFo.toFol (λd hd=>by obtain ⟨k,hk,rfl⟩:=zgo hd;have:=hFo.ln k hk;omega) z
 unfold aDs at hk
 have hM0:0<(tG s b z).length:=by
  unfold tG
  rw [zp hz]
  exact List.length_pos_of_mem ((amH hFo.len (akG.1 hz)).me z rfl)
 obtain ⟨⟨hlen,s16,f16,hreg,hlns⟩,ln,hcl,hcols⟩:=hFo
 have hnew:=aDg s (by omega)
 generalize tG s b z=M at*
 refine cB aF Tryz.func156 (by kernel_rfl) rfl rfl rfl rfl ?_
 have hlm:aY mU bF (mE M)≠[]:=λe=>by
  have:=congrArg List.length e
  unfold aY mE at this
  rw [zql,zql] at this
  simp only [List.length_nil] at this;omega
 have hI:∀k y,(oD s b (inR M) who k y).length<=b[k]!.lines.length:=λk y=>aAW s b (inR M) who k y
 focus ((try apply wO pk;rfl);(repeat' first|apply lnF pk;rfl;rfl;rfl;rotate_left;rfl;rfl|show Cn _;constructor|apply wC pk;rfl;rfl|apply wE pk;rfl;rfl|refine aB rfl ?_ ?_<;>intro h<;>(try simp at h)<;>try omega|(try refine aC ?_);(refine ⟨_,_,_,rfl,zwr _,zsr _, ?_⟩)|(apply aH;rfl;rfl;rfl;(intro _;(first|apply hr|apply hk)<;>first|assumption|omega);rotate_left;rfl;rfl)|(apply cD;rfl;rfl;(apply (hnew st)<;>first|exact aA _ _ _|assumption|omega|(fail));rfl;rfl;rfl;intro _ st' hR;obtain ⟨idT,rfl,hidT,rfl⟩:=hR)|((exfalso;first|exact hlm h|fail))))
 have hidT0:st idT=none:=hidT
 have hsub:StSub (upd st idT (some (.arr 86 (jO b.length 0 (qK s b (inR M) who))))) (upd st idT (some (.arr 86 ((List.replicate s.length ()).map zM)))):=by rw [apN,hlen];exact zsr _
 refine aK (X:={x:Nat//x<=b.length/\∀k (h:k<b.length),k<x->∀y (h:y<b[k].lines.length),zJ s[k]! (inR M) k b[k].lines[y]=true}) (λi=>(((((((((St.nil 89 (upd st idT (some (.arr 86 (jO b.length i.1 (qK s b (inR M) who)))))).var 5 24 ((scC s))).var 9 59 (who.cells)).var 10 27 ([.val (.slice none 0 0)])).pv 12 (.fmap (aY mU bF (mE M)))).var 13 27 ([.vec idT 1 0 s.length])).pv 37 (.seq (b.map Da.cells))).pv 38 ((PV.val (Value.int .i64 (((b.map Da.cells).length:Nat)))))).pv 39 ((PV.val (Value.int .i64 ((i.1:Nat))))))) (λi=>b.length-i.1) ⟨0,by omega,by simp⟩ ?_ (λi=> ?_)
 ·(repeat (first|refine Sub.pv ?_ rfl|refine Sub.var ?_ rfl rfl));exact Sub.nil _ _ _ hsub rfl
 obtain ⟨i,hi,hIv⟩:=i
 dsimp only
 by_cases hend:b.length<=i
 ·obtain rfl:i=b.length:=by omega
  have hmay:aiJ s b (inR M)=true:=by
   unfold aiJ
   rw [zal]
   intro k hk
   have hk:=List.mem_range.1 hk
   rw [getElem!_pos b k hk,zal]
   intro l hl
   obtain ⟨y,hy,rfl⟩:=zgo hl
   exact hIv k hk hk y hy
  rw [awB]
  (try apply wO pk;rfl);(repeat' first|show Cn _;constructor|apply wC pk;rfl;rfl|refine aB rfl ?_ ?_<;>intro h<;>(try simp at h)<;>try omega|(try refine aC ?_);((refine ⟨_,_,_,rfl,zwr _,zsr _, ?_⟩;(exact .inr ⟨hmay,idT,by rw [hlen],aA _ _ _,cY hidT0⟩);done)))
 have hib:i<b.length:=by omega
 have his:i<s.length:=by omega
 have hrow:=axF hib (qK s b (inR M) who)
 have hset:=auS (n:=b.length) (k:=i) (qK s b (inR M) who)
 have hrl:=auY b.length i (qK s b (inR M) who)
 have hIu:=λy h=>aDm (s:=s) (b:=b) (G:=inR M) (who:=who) (k:=i) (y:=y) h
 have hIa:=azJ (s:=s) (b:=b) (G:=inR M) (who:=who) (k:=i)
 have hI0:oD s b (inR M) who i 0=[]:=by simp [oD]
 have hIl:=hI i
 have hreg:=hreg i his
 have hln:=ln i hib
 have hcl:=hcl i hib
 have hcol:=hcols i his
 have hf16:=f16 i his
 simp only [getElem!_pos b i hib,getElem!_pos s i his] at hIu hIa hIl hreg
 generalize jO b.length i (qK s b (inR M) who)=R at*
 focus ((try apply wO pk;rfl);(repeat' first|show Cn _;constructor|apply wC pk;rfl;rfl|apply wE pk;rfl;rfl|refine aB rfl ?_ ?_<;>intro h<;>(try simp at h)<;>try omega|apply aP pk;(iterate 6 rfl);rotate_left;rfl;(intro hw;rfl);(intro hw;apply aJ<;>omega);(intro _;rfl);rfl|intros;(try simp only [zql]);omega))
 refine akW (id:=idT) (k:=i) 67 3 (aA _ _ _) hrow rfl (λidL hidL=> ?_)
 have hidL1:upd st idT (some (.arr 86 R)) idL=none:=hidL
 have hne:idL≠idT:=λe=>by rw [e,aA] at hidL1;cases hidL1
 have hidL0:st idL=none:=by rwa [aD hne] at hidL1
 clear hidL hidL1
 have hsub2:StSub (upd (upd st idL (some (.arr 67 ((oD s b (inR M) who i 0).map Ln.cells)))) idT (some (.arr 86 (R.set i [.vec idL 3 0 (oD s b (inR M) who i 0).length])))) (upd (upd (upd st idT (some (.arr 86 R))) idL (some (.arr 67 []))) idT (some (.arr 86 (R.set i [.vec idL 3 0 0])))):=by rw [hI0];exact axL hne
 refine aK (X:={x:Nat×Nat//x.1<=b[i].lines.length/\st x.2=none/\x.2≠idT/\∀y (h:y<b[i].lines.length),y<x.1->zJ s[i] (inR M) i b[i].lines[y]=true}) (λy=>(((((((((((((St.nil 89 (upd (upd st y.1.2 (some (.arr 67 ((oD s b (inR M) who i y.1.1).map Ln.cells)))) idT (some (.arr 86 (R.set i [.vec y.1.2 3 0 (oD s b (inR M) who i y.1.1).length]))))).var 5 24 ((scC s))).var 9 59 (who.cells)).var 10 27 ([.val (.slice none 0 0)])).pv 12 (.fmap (aY mU bF (mE M)))).var 13 27 ([.vec idT 1 0 s.length])).pv 14 ((PV.val (Value.int .i64 ((i:Nat)))))).pv 37 (.seq (b.map Da.cells))).pv 38 ((PV.val (Value.int .i64 (((b.map Da.cells).length:Nat)))))).pv 39 ((PV.val (Value.int .i64 ((i:Nat)))))).pv 45 (.seq (b[i].lines.map Ln.cells))).pv 46 ((PV.val (Value.int .i64 (((b[i].lines.map Ln.cells).length:Nat)))))).pv 47 ((PV.val (Value.int .i64 ((y.1.1:Nat))))))) (λy=>b[i].lines.length-y.1.1) ⟨(0,idL),by simp,hidL0,hne,by simp⟩ ?_ (λy=> ?_)
 ·dsimp only
  (repeat (first|refine Sub.pv ?_ rfl|refine Sub.var ?_ rfl rfl));exact Sub.nil _ _ _ hsub2 rfl
 clear hidL0 hne hsub2 hsub
 obtain ⟨⟨y,idL⟩,hy,hidL0,hne,hyI⟩:=y
 dsimp only at hy hidL0 hne hyI
 dsimp only
 have hneT:=Ne.symm hne
 have hgr:(R.set i [.vec idL 3 0 (oD s b (inR M) who i y).length])[i]?=some [.vec idL 3 0 (oD s b (inR M) who i y).length]:=List.getElem?_set_self (by omega)
 have hIy:=hIl y
 by_cases hend2:b[i].lines.length<=y
 ·obtain rfl:y=b[i].lines.length:=by omega
  rw [hIa] at hgr⊢
  have hup:∀k (h:k<b.length),k<i+1->∀y (h:y<b[k].lines.length),zJ s[k]! (inR M) k b[k].lines[y]=true:=λk hk hki v hv=>by
   rcases zls.1 hki with q|q
   ·exact hIv k hk q v hv
   ·subst q;rw [getElem!_pos s k his];exact hyI v hv hv
  refine aoB (id:=idT) (idL:=idL) (k:=i) (aA _ _ _) hgr ((aD hne).trans (aA _ _ _)) qP (zql _) hneT ?_
  rw [List.set_set,hset]
  (try apply wO pk;rfl);(repeat' first|show Cn _;constructor|apply wC pk;rfl;rfl|refine aB rfl ?_ ?_<;>intro h<;>(try simp at h)<;>try omega|(refine ⟨⟨i+1,by omega,hup⟩, ?_,by simp only;omega⟩;(((repeat (first|refine Sub.pv ?_ rfl|refine Sub.var ?_ rfl rfl));(exact Sub.nil _ _ _ (atH hidL0 hne rfl) rfl))))|intros;(try simp only [zql]);omega)
 have hyl:y<b[i].lines.length:=by omega
 obtain ⟨l,hle⟩:∃l,b[i].lines[y]=l:=⟨_,rfl⟩
 have hlm:l∈b[i].lines:=hle▸zgm hyl
 have hgl:(b[i].lines.map Ln.cells)[y]?=some l.cells:=by rw [List.getElem?_map,zgg hyl,hle];rfl
 have hIu:=hIu y hyl
 rw [hle] at hIu
 have hyU:zJ s[i] (inR M) i l=true->∀v (h:v<b[i].lines.length),v<y+1->zJ s[i] (inR M) i b[i].lines[v]=true:=λh v hv hvy=>by
  rcases zls.1 hvy with q|q
  ·exact hyI v hv q
  ·subst q;rw [hle];exact h
 have hbad:zJ s[i] (inR M) i l=false->aiJ s b (inR M)=false:=λh=>aCa hib hyl (by rw [getElem!_pos s i his,hle];exact h)
 have hleft:=auZ s[i] l M who (by omega) (by have:=(hcl l hlm).1;omega) (hcl l hlm).2 (λf hf=>hreg f hf l hlm) hcol
 unfold azB at hleft
 cases hG:inR M ((i:Int),l.key) with
 |true=>
  rw [hG,zp rfl] at hIu
  have hU:=hyU (by unfold zJ;rw [hG];rfl)
  (try apply wO pk;rfl);(repeat' first|apply lkS (M:=M) (k:=((i:Int),l.key));(iterate 5 rfl);rotate_left;rfl;rfl;rw [hG]|show Cn _;constructor|apply wC pk;rfl;rfl|apply wE pk;rfl;rfl|refine aB rfl ?_ ?_<;>intro h<;>(try simp at h)<;>try omega|apply aP pk;(iterate 6 rfl);rotate_left;rfl;(((intro hw;rfl);(intro hw;apply hgl<;>omega);(intro _;rfl)));rfl|(refine ⟨⟨(y+1,idL),by simp only;omega,hidL0,hne,hU⟩, ?_,by simp only;omega⟩;((dsimp only;rw [hIu]));(((repeat (first|refine Sub.pv ?_ rfl|refine Sub.var ?_ rfl rfl));(exact Sub.nil _ _ _ (zsr _) rfl))))|intros;(try simp only [zql]);omega)
 |false=>
  rw [hG,zn (by simp)] at hIu
  cases hL:tQ s[i] (inR M) l with
  |false=>
   rw [hL,zn (by simp)] at hleft
   have hb:=hbad (by unfold zJ;rw [hG,hL];rfl)
   (try apply wO pk;rfl);(repeat' first|apply lkS (M:=M) (k:=((i:Int),l.key));(iterate 5 rfl);rotate_left;rfl;rfl;rw [hG]|apply wD pk [] [];kernel_rfl;rfl;rfl|show Cn _;constructor|apply wC pk;rfl;rfl|apply wE pk;rfl;rfl|refine aB rfl ?_ ?_<;>intro h<;>(try simp at h)<;>try omega|(try refine aC ?_);((refine ⟨_,_,_,rfl,zwr _,zsr _, ?_⟩;(exact .inl ⟨hb,rfl,anP hidL0 hidT0⟩);done))|(apply aH;rfl;rfl;rfl;(intro _;apply hleft<;>first|assumption|omega);rotate_left;rfl;rfl)|apply aP pk;(iterate 6 rfl);rotate_left;rfl;(first|(intro hw;rfl);(intro hw;apply hgl<;>omega);(intro _;rfl)|(intro hw;rfl);(intro hw;apply aJ<;>omega);(intro _;rfl));rfl)
  |true=>
   rw [hL,zp rfl] at hleft
   have hU:=hyU (by unfold zJ;rw [hG,hL];rfl)
   have hlenU:(oD s b (inR M) who i (y+1)).length=(oD s b (inR M) who i y).length+1:=by rw [hIu,zla];rfl
   (try apply wO pk;rfl);(repeat' first|apply wD (id:=17) pk [11,14] [8];kernel_rfl;rfl;rfl|apply wD (id:=14) pk [] [];kernel_rfl;rfl;rfl|apply lkS (M:=M) (k:=((i:Int),l.key));(iterate 5 rfl);rotate_left;rfl;rfl;rw [hG]|show Cn _;constructor|apply wC pk;rfl;rfl|apply wE pk;rfl;rfl|refine aB rfl ?_ ?_<;>intro h<;>(try simp at h)<;>try omega|(apply aH;rfl;rfl;rfl;(intro _;apply hleft<;>first|assumption|omega);rotate_left;rfl;rfl)|apply aP pk;(iterate 6 rfl);rotate_left;rfl;(first|(intro hw;rfl);(intro hw;apply hgl<;>omega);(intro _;rfl)|(intro hw;rfl);(intro hw;apply aJ<;>omega);(intro _;rfl));rfl|(apply apV pk (f:=Ln.cells) [kU s[i] (inR M) who l] 56;(iterate 9 rfl);((focus ((repeat (first|exact aA _ _ _|refine (aD ‹_›).trans ?_));done)));(omega);exact λ_=>rfl;exact λ_=>rfl;exact aeZ;((focus (simp;omega)));((focus (simp;omega)));rfl;intro id' hid')|apply ixA pk;(iterate 5 rfl);rotate_left;rfl;(intro hw;(exact (show _=((i:Nat):Int) from by omega)));(intro hw;(omega));rfl;(exact Nat.zero_add _)|apply ldX pk;rfl;rfl;rotate_left;rfl;exact aA _ _ _;rfl;exact hgr;rfl;rfl|have hq:=sH hid';apply stX pk;rfl;rfl;exact (aD hq.1).trans ((aD hneT).trans (aA _ _ _));rfl;exact hgr;rfl;rfl|(refine ⟨⟨(y+1,id'),by simp only;omega,(sH hid').2,Ne.symm (sH hid').1,hU⟩, ?_,by simp only;omega⟩;((dsimp only));(((repeat (first|refine Sub.pv ?_ rfl|refine Sub.var ?_ rfl rfl));(exact Sub.nil _ _ _ (apT hidL0 hne (by rw [hIu]) (by rw [List.set_set,hlenU];rfl)) rfl))))|intros;(try simp only [zql]);omega)
end
end Go.Proofs.YtloecjjehapblaaGreatDoor
