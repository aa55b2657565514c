import Derived.Test.YtddmbnddgiebgaaGreatDoorBsRefP
set_option linter.unusedSimpArgs false
set_option linter.unusedVariables false
namespace Go.Proofs.YtddmbnddgiebgaaGreatDoor
open Go Go.Abs
attribute [local irreducible] Ev PWp
set_option maxRecDepth 10000
set_option maxHeartbeats 4000000
theorem asN {α:Type} {L:List α} {j i:Nat} {a:α} (h:i<j) (hj:j≤L.length):(L.take j++[a]++L.drop j)[i]?=some (L[i]'(by omega)):=by
  rw [List.append_assoc,List.getElem?_append_left (by rw [List.length_take];omega),List.getElem?_take_of_lt h]
  exact List.getElem?_eq_getElem (by omega)
theorem asZ {α:Type} {L:List α} {j:Nat} {a:α} (hj:j≤L.length):(L.take j++[a]++L.drop j)[j]?=some a:=by
  rw [List.append_assoc,List.getElem?_append_right (by rw [List.length_take];omega),List.length_take,Nat.min_eq_left hj,Nat.sub_self]
  rfl
theorem asV {α:Type} {L:List α} {j i:Nat} {a:α} (h:j≤i) (hi:i<L.length):(L.take j++[a]++L.drop j)[i+1]?=some L[i]:=by
  rw [List.append_assoc,List.getElem?_append_right (by rw [List.length_take];omega),List.length_take,Nat.min_eq_left (by omega),show i+1-j=(i-j)+1 by omega]
  simp only [List.singleton_append,List.getElem?_cons_succ,List.getElem?_drop]
  rw [show j+(i-j)=i by omega]
  exact List.getElem?_eq_getElem hi
theorem anV {L:List Dt} {d:Dt} {q:Nat} (h:q<fI L d) (hq:q<L.length):bO L[q] d=false:=by
  unfold fI at h
  cases e:L.findIdx? fun x=>bO x d with
  |none=>exact List.findIdx?_eq_none_iff.1 e _ (List.getElem_mem hq)
  |some j=>rw [e] at h;simpa using (List.findIdx?_eq_some_iff_getElem.1 e).2.2 q h
theorem amB {L:List Dt} {d:Dt} {j:Nat} (hd:fI L d=j) (hq:j<L.length):bO L[j] d=true:=by
  unfold fI at hd
  cases e:L.findIdx? fun x=>bO x d with
  |none=>rw [e] at hd;simp at hd;omega
  |some q=>rw [e] at hd;simp at hd;subst hd;exact (List.findIdx?_eq_some_iff_getElem.1 e).2.1
theorem adK {st:aM} {id id2:Nat} {o b c:Option AObj} (hid:st id=none) (hb:b=c):StSub (upd st id2 b) (upd (upd (upd st id o) id none) id2 c):=hb▸pS hid
theorem akC (a:Ln) (d:Dt) (st:aM) (hl:a.by_.length<100000000000) (R:List Dt) (j:Nat) (hjd:fI a.by_ d=j) (hRd:bY a.by_ j [d]=R):PC Tryz.prog 65 [.agg a.cells, .agg d.cells] st fun r S=>(r= .agg a.cells∧S=st∧d∈a.by_)∨(d∉a.by_∧∃id,r= .agg [(PV.val (Value.int .i64 (a.key))), .seq (a.cells_.map Cl.cells), .vec id 2 0 R.length]∧st id=none∧S=upd st id (some (.arr 30 (R.map Dt.cells)))):=by
  have hj:j≤a.by_.length:=hjd▸uF a.by_ d
  have hR:R.length=a.by_.length+1:=hRd▸iK hj
  have hlo:∀i (h:i<j),R[i]?=some (a.by_[i]'(by omega)):=fun i h=>hRd▸asN h hj
  have hat:R[j]?=some d:=hRd▸asZ hj
  have hhi:∀i (h:j≤i) (h2:i<a.by_.length),R[i+1]?=some a.by_[i]:=fun i h h2=>hRd▸asV h h2
  have h4:∀q (_:q<j) (hq:q<a.by_.length),bO a.by_[q] d=false:=fun q h hq=>anV (hjd▸h) hq
  have h5:=amB hjd
  clear hjd hRd
  refine cR aH Tryz.func65 (by kernel_rfl) rfl rfl rfl rfl ?_
  focus ((try (apply wO pk;exact rfl));(repeat' (first|(show All _;constructor)|(show Imp _ _;constructor)|(show ImpX _ _ _ _;constructor)|(apply wC pk;(iterate 2 exact rfl))|(apply wE pk;(iterate 2 exact rfl))|(apply wX pk;exact rfl)|(apply wN pk;exact rfl)|(apply wD pk [] [];kernel_rfl;exact rfl;exact rfl)|(apply aB;simp only [zqt,zqf])|(refine aD rfl (fun h=> ?_) (fun h=> ?_)<;>(try simp at h)<;>try (exfalso;omega))|(refine aF ?_;refine ⟨_,_,_,rfl,Wk.refl _,StSub.refl _, ?_,rfl⟩;try rfl)|(intros;(try simp only [zql]);omega))))
  refine aO (X:={x:Nat//x≤a.by_.length∧∀j (h:j<a.by_.length),j<x→a.by_[j]≠d}) (fun i=>(((((St.nil 66 st).var 2 43 (a.cells)).var 3 30 (d.cells)).var 4 43 ([(PV.val (Value.int .i64 (0))), .val (.slice none 0 0), .val (.slice none 0 0)])).pv 5 ((PV.val (Value.int .i64 ((i.1:Nat))))))) (fun i=>a.by_.length-i.1) ⟨0,by omega,by omega⟩ ?_ (fun i=> ?_)
  · ((repeat (first|refine Sub.pv ?_ rfl|refine Sub.var ?_ rfl rfl));exact Sub.nil _ _ _ (StSub.refl _) rfl)
  obtain ⟨i,hi,hI⟩:=i
  dsimp only
  by_cases hend:a.by_.length≤i
  rotate_left
  have hil:i<a.by_.length:=by omega
  by_cases hk:a.by_[i]=d
  have hm:d∈a.by_:=hk▸List.getElem_mem hil
  rotate_left
  have hIA:∀j (h:j<a.by_.length),j<i+1→a.by_[j]≠d:=fun j h hj=>by
    rcases Nat.lt_succ_iff_lt_or_eq.1 hj with q|q
    · exact hI j h q
    · subst q;exact hk
  rotate_left
  have hnd:d∉a.by_:=fun hm=>by
    obtain ⟨j,hj,e⟩:=List.getElem_of_mem hm
    exact hI j hj (by omega) e
  focus ((try (apply wO pk;exact rfl));(repeat' (first|(show All _;constructor)|(show Imp _ _;constructor)|(show ImpX _ _ _ _;constructor)|(apply wC pk;(iterate 2 exact rfl))|(apply wE pk;(iterate 2 exact rfl))|(apply wX pk;exact rfl)|(apply wN pk;exact rfl)|(apply wD pk [] [];kernel_rfl;exact rfl;exact rfl)|(apply aB;simp only [zqt,zqf])|(refine aD rfl (fun h=> ?_) (fun h=> ?_)<;>(try simp at h)<;>try (exfalso;omega))|(refine aF ?_;refine ⟨_,_,_,rfl,Wk.refl _,StSub.refl _, ?_,rfl⟩;try rfl)|(intros;(try simp only [zql]);omega))))
  refine jG 6 30 2 rfl rfl rfl (fun id hid=> ?_)
  refine aO (X:={x:Nat×Nat×Bool×Nat//x.1≤a.by_.length∧st x.2.1=none∧x.2.2.1=decide (j<x.1)∧x.2.2.2=x.1+x.2.2.1.toNat}) (fun i=>(((((((St.nil 66 (upd st i.1.2.1 (some (.arr 30 ((R.take i.1.2.2.2).map Dt.cells))))).var 2 43 (a.cells)).var 3 30 (d.cells)).var 4 43 ([(PV.val (Value.int .i64 (0))), .val (.slice none 0 0), .val (.slice none 0 0)])).pv 6 (.vec i.1.2.1 2 0 i.1.2.2.2)).pv 7 ((PV.val (Value.bool (i.1.2.2.1))))).pv 8 ((PV.val (Value.int .i64 ((i.1.1:Nat))))))) (fun i=>a.by_.length-i.1.1) ⟨(0,id,false,0),by simp,hid,by simp,by simp⟩ ?_ (fun i=> ?_)
  · dsimp only
    (first|exact Sub.nil _ _ _ (StSub.refl _) rfl|((repeat (first|refine Sub.pv ?_ rfl|refine Sub.var ?_ rfl rfl));(first|exact Sub.nil _ _ _ (StSub.refl _) rfl|exact Sub.nil _ _ _ (aP (by assumption)) rfl|exact Sub.nil _ _ _ (aJ (by first|rfl|exact aT (by assumption)|((simp only [St.pv,St.put,St.sst,St.setv,St.nil,St.var,aK]);first|done|rfl))) rfl|(refine Sub.nil _ _ _ (aJ ?_) rfl;(simp only [St.pv,St.put,St.sst,St.setv,St.nil,St.var,aK]);(rw [cI (by assumption)]);first|done|rfl))))
  clear hI
  obtain ⟨⟨i,id,f,c⟩,hi,hid,hf,hc⟩:=i
  simp only at hi hid hf hc
  dsimp only
  have hlen:(R.take c).length=c:=by rw [List.length_take];cases f<;>simp at hc<;>omega
  by_cases hend:a.by_.length≤i
  obtain rfl:i=a.by_.length:=by omega
  cases f
  obtain rfl:j=a.by_.length:=by simp at hf;omega
  obtain rfl:c=a.by_.length:=by simpa using hc
  have e:R.take a.by_.length++[d]=R:=by rw [←lY hat];exact List.take_of_length_le (by omega)
  have hlB:(R.take a.by_.length++[d]).length=a.by_.length+[d].length:=by rw [e,hR];rfl
  rotate_left
  obtain rfl:c=R.length:=by simp at hc;omega
  rw [List.take_length]
  rotate_left
  have hil:i<a.by_.length:=by omega
  have hab:=gP a.by_[i] d
  by_cases hij:i=j
  subst hij
  obtain rfl:f=false:=by rw [hf];simp
  obtain rfl:c=i:=by simpa using hc
  have e:R.take (c+2)=(R.take c++[d])++[a.by_[c]]:=by rw [lY (hhi c (Nat.le_refl _) hil),lY hat]
  rw [h5 hil] at hab
  have hfC:true=decide (c<c+1):=by simp
  rotate_left
  have e:R.take (c+1)=R.take c++[a.by_[i]]:=by
    cases f
    · obtain rfl:c=i:=by simpa using hc
      exact lY (hlo _ (by simp at hf;omega))
    · obtain rfl:c=i+1:=by simpa using hc
      exact lY (hhi i (by simp at hf;omega) hil)
  have hf2:f=decide (j<i+1):=by rw [hf,decide_eq_decide];omega
  have hc2:c+1=i+1+f.toNat:=by omega
  have hgt:f=false→bO a.by_[i] d=false:=fun q=>h4 i (by rw [hf] at q;simp at q;omega) hil
  clear hf
  cases f
  rw [hgt rfl] at hab
  rotate_left
  rotate_left
  all_goals ((try (apply wO pk;exact rfl));(repeat' (first|((refine aF ?_;exact ⟨_,_,upd st id' (some (.arr 30 (R.map Dt.cells))),rfl,Wk.refl _,adK hid (by rw [e]), .inr ⟨hnd,id',by rw [hR];rfl,dC hid',rfl⟩⟩))|(show All _;constructor)|(show Imp _ _;constructor)|(show ImpX _ _ _ _;constructor)|(apply wC pk;(iterate 2 exact rfl))|(apply wE pk;(iterate 2 exact rfl))|(apply wX pk;exact rfl)|(apply wN pk;exact rfl)|(apply wD pk [] [];kernel_rfl;exact rfl;exact rfl)|(apply aB;simp only [zqt,zqf])|(refine aD rfl (fun h=> ?_) (fun h=> ?_)<;>(try simp at h)<;>try (exfalso;omega))|((try refine aF ?_);(first|(refine ⟨_,_,_,rfl,Wk.refl _,StSub.refl _, ?_⟩;((first|(exact .inl ⟨rfl,rfl,hm⟩)|(exact .inr ⟨hnd,id,rfl,hid,rfl⟩)));done)|(refine ⟨_,_, ?zs,rfl,Wk.refl _, ?zh, ?zr⟩;(case zh=>(refine aG ?_ (by assumption);(repeat refine aG ?_ (by assumption));exact StSub.refl _));(case zr=>((first|(exact .inl ⟨rfl,rfl,hm⟩)|(exact .inr ⟨hnd,id,rfl,hid,rfl⟩)))))|refine ⟨_,_,_,rfl,Wk.refl _,StSub.refl _, ?_⟩))|(apply aN;(iterate 3 exact rfl);(intro _;apply hab<;>first|assumption|omega);rotate_left;(iterate 2 exact rfl))|(apply bZ;(iterate 3 exact rfl);(intro _;apply hab<;>first|assumption|omega);rotate_left;(iterate 2 exact rfl))|(apply aW pk;(iterate 6 exact rfl);rotate_left;exact rfl;(intro hw;exact rfl);(intro hw;apply aI<;>omega);(intro _;exact rfl);exact rfl)|(apply ncA;(iterate 3 exact rfl);rotate_left;exact rfl;exact rfl)|(apply ldR pk;exact rfl;exact rfl;rotate_left;exact rfl;(focus ((repeat (first|exact aA _ _ _|assumption|refine (aC (by assumption)).trans ?_));done));exact rfl;exact rfl)|(apply stR pk;exact rfl;exact rfl;(focus ((repeat (first|exact aA _ _ _|assumption|refine (aC (by assumption)).trans ?_));done));exact rfl;exact rfl)|(apply apV pk (f:=Dt.cells) [d] 16;(iterate 9 exact rfl);(focus ((repeat (first|exact aA _ _ _|assumption|refine (aC (by assumption)).trans ?_));done));(first|omega|assumption|(focus (simp;done))|(focus (simp;omega))|(focus (simp at*;omega)));exact fun _=>rfl;exact fun _=>rfl;exact gI;(first|omega|assumption|(focus (simp;done))|(focus (simp;omega))|(focus (simp at*;omega)));(first|omega|assumption|(focus (simp;done))|(focus (simp;omega))|(focus (simp at*;omega)));exact rfl;intro id' hid')|(apply ap0 pk (f:=Dt.cells) [d] 16;(iterate 10 exact rfl);exact fun _=>rfl;exact fun _=>rfl;exact gI;(first|omega|assumption|(focus (simp;done))|(focus (simp;omega))|(focus (simp at*;omega)));(first|omega|assumption|(focus (simp;done))|(focus (simp;omega))|(focus (simp at*;omega)));exact rfl;intro id' hid')|(apply apV pk (f:=Dt.cells) [a.by_[c]] 16;(iterate 9 exact rfl);(focus ((repeat (first|exact aA _ _ _|assumption|refine (aC (by assumption)).trans ?_));done));(first|omega|assumption|(focus (simp;done))|(focus (simp;omega))|(focus (simp at*;omega)));exact fun _=>rfl;exact fun _=>rfl;exact gI;(first|omega|assumption|(focus (simp;done))|(focus (simp;omega))|(focus (simp at*;omega)));(first|omega|assumption|(focus (simp;done))|(focus (simp;omega))|(focus (simp at*;omega)));exact rfl;intro id' hid')|(apply ap0 pk (f:=Dt.cells) [a.by_[c]] 16;(iterate 10 exact rfl);exact fun _=>rfl;exact fun _=>rfl;exact gI;(first|omega|assumption|(focus (simp;done))|(focus (simp;omega))|(focus (simp at*;omega)));(first|omega|assumption|(focus (simp;done))|(focus (simp;omega))|(focus (simp at*;omega)));exact rfl;intro id' hid')|(apply apV pk (f:=Dt.cells) [a.by_[i]] 16;(iterate 9 exact rfl);(focus ((repeat (first|exact aA _ _ _|assumption|refine (aC (by assumption)).trans ?_));done));(first|omega|assumption|(focus (simp;done))|(focus (simp;omega))|(focus (simp at*;omega)));exact fun _=>rfl;exact fun _=>rfl;exact gI;(first|omega|assumption|(focus (simp;done))|(focus (simp;omega))|(focus (simp at*;omega)));(first|omega|assumption|(focus (simp;done))|(focus (simp;omega))|(focus (simp at*;omega)));exact rfl;intro id' hid')|(apply ap0 pk (f:=Dt.cells) [a.by_[i]] 16;(iterate 10 exact rfl);exact fun _=>rfl;exact fun _=>rfl;exact gI;(first|omega|assumption|(focus (simp;done))|(focus (simp;omega))|(focus (simp at*;omega)));(first|omega|assumption|(focus (simp;done))|(focus (simp;omega))|(focus (simp at*;omega)));exact rfl;intro id' hid')|(refine ⟨⟨i+1,by omega,hIA⟩, ?_,by simp only;omega⟩;(first|exact Sub.nil _ _ _ (StSub.refl _) rfl|((repeat (first|refine Sub.pv ?_ rfl|refine Sub.var ?_ rfl rfl));(first|exact Sub.nil _ _ _ (uP (by assumption) (by assumption) rfl) rfl|exact Sub.nil _ _ _ (StSub.refl _) rfl|exact Sub.nil _ _ _ (aP (by assumption)) rfl|exact Sub.nil _ _ _ (aJ (by first|rfl|exact aT (by assumption)|((simp only [St.pv,St.put,St.sst,St.setv,St.nil,St.var,aK]);first|done|rfl))) rfl|(refine Sub.nil _ _ _ (aJ ?_) rfl;(simp only [St.pv,St.put,St.sst,St.setv,St.nil,St.var,aK]);(rw [cI (by assumption)]);first|done|rfl)))))|((first|refine ⟨⟨(c+1,id',true,c+2),by simp only;omega,mD hid (dC hid'),hfC,rfl⟩, ?_,by simp only;omega⟩|refine ⟨⟨(i+1,id',false,c+1),by simp only;omega,dC hid',hf2,hc2⟩, ?_,by simp only;omega⟩|refine ⟨⟨(i+1,id',true,c+1),by simp only;omega,dC hid',hf2,hc2⟩, ?_,by simp only;omega⟩);((dsimp only;try rw [e]));(first|exact Sub.nil _ _ _ (StSub.refl _) rfl|((repeat (first|refine Sub.pv ?_ rfl|refine Sub.var ?_ rfl rfl|refine Sub.pv' ?_ rfl (by (first|rfl|simp))|refine Sub.var' ?_ rfl rfl (by (first|rfl|simp))));(first|exact Sub.nil _ _ _ (uP (by assumption) (by assumption) rfl) rfl|exact Sub.nil _ _ _ (StSub.refl _) rfl|exact Sub.nil _ _ _ (aP (by assumption)) rfl|exact Sub.nil _ _ _ (aJ (by first|rfl|exact aT (by assumption)|((simp only [St.pv,St.put,St.sst,St.setv,St.nil,St.var,aK]);first|done|rfl))) rfl|(refine Sub.nil _ _ _ (aJ ?_) rfl;(simp only [St.pv,St.put,St.sst,St.setv,St.nil,St.var,aK]);(rw [cI (by assumption)]);first|done|rfl)))))|(intros;(try simp only [zql]);omega)|(exfalso;grind [Dt.ext_iff]))))
theorem abE (a:Ln) (d:Dt) (hl:a.by_.length<100000000000):PF Tryz.prog 65 [.agg a.cells, .agg d.cells] (.agg (cT a d).cells):=fun st=>
  gE (sz:=2) (akC a d st hl _ _ rfl rfl) fun p st' h=>by
    rcases h with ⟨rfl,rfl,hd⟩|⟨hd,id,rfl,h3,rfl⟩
    · exact .inr ⟨_,_,Wk.refl _,StSub.refl _,by rw [cT,if_pos hd],rfl⟩
    · exact .inl ⟨id,30,(bY a.by_ (fI a.by_ d) [d]).map Dt.cells,_,st,aA _ _ _,mW, .agg (.cons .refl (.cons .refl (.cons (fE rfl) .nil))),bP h3,by rw [cT,if_neg hd];rfl,rfl⟩
end Go.Proofs.YtddmbnddgiebgaaGreatDoor
namespace Go.Proofs.YtddmbnddgiebgaaGreatDoor
open Go Go.Abs
attribute [local irreducible] Ev PWp
set_option maxRecDepth 10000
set_option maxHeartbeats 4000000
section
variable {P:Program} {tt:TT} {l:List Oper} {d:Md} {r:List Oper} {s:St} {K:St→Prop} {t:Nat} {ty:TypeId} {pos:String} {after:Array Edge}
theorem awL {T T2:TypeId} {x y:Operand} {a b:Int} (hx:opd s x=some (.val (.int .i64 a))) (hy:opd s y=some (.val (.int .i64 b))) (hf:bR s [x,y]=true) (hd:Nat.blt t s.n=true) (ht:cJ d l r=true) (k:∀c,Ev P l d r (s.put (some t) true (.pv (.val (.int .i64 c)))) K):Ev P l d (⟨some t, .binOp .add T x y T2,ty,pos,after,none⟩::r) s K:=
  gM (c:=IntKind.i64.wrap (a+b)) rfl hx hy (fun _=> .inl ⟨rfl,rfl⟩) (by simp only [bR,Bool.and_eq_true] at hf;exact ⟨fun _=>hf.1,fun _=>hf.2.1,trivial⟩) hd ht (k _)
end
def tot (b:Bs):Nat:=(b.map fun d=>d.lines.length).sum
theorem alJ {b:Bs} {i:Nat} (h:i<b.length):tot (b.take (i+1))=tot (b.take i)+b[i].lines.length:=by
  unfold tot
  rw [List.take_succ_eq_append_getElem h,List.map_append,List.sum_append];simp
theorem atH (b:Bs) (i:Nat):tot (b.take i)≤tot b:=by
  have:tot b=tot (b.take i)+tot (b.drop i):=by
    unfold tot;rw [←List.sum_append,←List.map_append,List.take_append_drop]
  omega
def pF (b:Bs):Bool:=decide (b.length≤20)&&(decide (tot b≤100)&&b.all fun d=>d.lines.all eF)
theorem atZ {b:Bs} {i y:Nat} (hi:i<b.length) (hy:y<b[i].lines.length) (h:eF b[i].lines[y]=false):pF b=false:=by
  unfold pF
  have:(b.all fun d=>d.lines.all eF)=false:=by
    rw [←Bool.not_eq_true,List.all_eq_true]
    intro q
    have:=List.all_eq_true.1 (q _ (List.getElem_mem hi)) _ (List.getElem_mem hy)
    rw [h] at this;cases this
  rw [this];simp
theorem akX (b:Bs) (hb:b.length<200000000000000) (hd:∀d∈b,d.lines.length<200000000000000∧∀l∈d.lines,l.cells_.length<4611686018427387904):PF Tryz.prog 22 [.agg (bsC b)] (PV.val (Value.bool (pF b))):=by
  by_cases h20:¬b.length≤20
  · have hF:pF b=false:=by unfold pF;rw [decide_eq_false h20];rfl
    rw [hF]
    refine aL aH Tryz.func22 (by kernel_rfl) rfl rfl rfl rfl (fun st=> ?_)
    focus ((try (apply wO pk;exact rfl));(repeat' (first|(show All _;constructor)|(show Imp _ _;constructor)|(show ImpX _ _ _ _;constructor)|(apply wC pk;(iterate 2 exact rfl))|(apply wE pk;(iterate 2 exact rfl))|(apply wX pk;exact rfl)|(apply wN pk;exact rfl)|(apply wD pk [] [];kernel_rfl;exact rfl;exact rfl)|(apply aB;simp only [zqt,zqf])|(refine aD rfl (fun h=> ?_) (fun h=> ?_)<;>(try simp at h)<;>try (exfalso;omega))|(refine aF ?_;refine ⟨_,_,_,rfl,Wk.refl _,StSub.refl _, ?_,rfl⟩;try rfl)|(intros;(try simp only [zql]);omega))))
    refine aO (X:={x:Nat×Int//x.1≤b.length}) (fun i=>((((St.nil 56 st).var 1 27 ((bsC b))).pv 3 ((PV.val (Value.int .i64 (i.1.2))))).pv 4 ((PV.val (Value.int .i64 ((i.1.1:Nat))))))) (fun i=>b.length-i.1.1) ⟨(0,0),by simp⟩ ?_ (fun i=> ?_)
    · ((repeat (first|refine Sub.pv ?_ rfl|refine Sub.var ?_ rfl rfl));exact Sub.nil _ _ _ (StSub.refl _) rfl)
    obtain ⟨⟨i,n⟩,hi⟩:=i
    simp only at hi
    dsimp only
    by_cases hend:b.length≤i
    rotate_left
    have hil:i<b.length:=by omega
    have hdl:=(hd _ (List.getElem_mem hil)).1
    focus ((try (apply wO pk;exact rfl));(repeat' (first|((iterate 3 (apply atD aH;(iterate 4 exact rfl)));apply awL;(iterate 5 exact rfl);intro n')|(show All _;constructor)|(show Imp _ _;constructor)|(show ImpX _ _ _ _;constructor)|(apply wC pk;(iterate 2 exact rfl))|(apply wE pk;(iterate 2 exact rfl))|(apply wX pk;exact rfl)|(apply wN pk;exact rfl)|(apply wD pk [] [];kernel_rfl;exact rfl;exact rfl)|(apply aB;simp only [zqt,zqf])|(refine aD rfl (fun h=> ?_) (fun h=> ?_)<;>(try simp at h)<;>try (exfalso;omega))|(refine aF ?_;refine ⟨_,_,_,rfl,Wk.refl _,StSub.refl _, ?_,rfl⟩;try rfl)|(apply aW pk;(iterate 6 exact rfl);rotate_left;exact rfl;(intro hw;exact rfl);(intro hw;apply aI<;>omega);(intro _;exact rfl);exact rfl)|(intros;(try simp only [zql]);omega))))
    refine aO (X:={x:Nat//x≤b[i].lines.length}) (fun y=>(((((St.nil 56 st).var 1 27 ((bsC b))).pv 3 ((PV.val (Value.int .i64 (n'))))).pv 4 ((PV.val (Value.int .i64 ((i:Nat)))))).pv 5 ((PV.val (Value.int .i64 ((y.1:Nat))))))) (fun y=>b[i].lines.length-y.1) ⟨0,by omega⟩ ?_ (fun y=> ?_)
    · ((repeat (first|refine Sub.pv ?_ rfl|refine Sub.var ?_ rfl rfl));exact Sub.nil _ _ _ (StSub.refl _) rfl)
    obtain ⟨y,hy⟩:=y
    dsimp only
    by_cases hend2:b[i].lines.length≤y
    rotate_left
    have hyl:y<b[i].lines.length:=by omega
    have hs:=uJ b[i].lines[y] ((hd _ (List.getElem_mem hil)).2 _ (List.getElem_mem hyl))
    rotate_left
    all_goals ((try (apply wO pk;exact rfl));(repeat' (first|(show All _;constructor)|(show Imp _ _;constructor)|(show ImpX _ _ _ _;constructor)|(apply wC pk;(iterate 2 exact rfl))|(apply wE pk;(iterate 2 exact rfl))|(apply wX pk;exact rfl)|(apply wN pk;exact rfl)|(apply wD pk [] [];kernel_rfl;exact rfl;exact rfl)|(apply aB;simp only [zqt,zqf])|(refine aD rfl (fun h=> ?_) (fun h=> ?_)<;>(try simp at h)<;>try (exfalso;omega))|(refine aF ?_;refine ⟨_,_,_,rfl,Wk.refl _,StSub.refl _, ?_,rfl⟩;try first|rfl|((rw [zql,decide_eq_false (by omega)];rfl);done))|(apply aN;(iterate 3 exact rfl);(intro _;apply hs<;>first|assumption|omega);rotate_left;(iterate 2 exact rfl))|(apply aW pk;(iterate 6 exact rfl);rotate_left;exact rfl;(intro hw;exact rfl);(intro hw;apply aI<;>omega);(intro _;exact rfl);exact rfl)|((first|refine ⟨⟨(i+1,n'),by simp only;omega⟩, ?_,by simp only;omega⟩|refine ⟨⟨y+1,by omega⟩, ?_,by simp only;omega⟩);((repeat (first|refine Sub.pv ?_ rfl|refine Sub.var ?_ rfl rfl));exact Sub.nil _ _ _ (StSub.refl _) rfl))|(intros;(try simp only [zql]);omega))))
  replace h20:=Decidable.of_not_not h20
  refine aL aH Tryz.func22 (by kernel_rfl) rfl rfl rfl rfl (fun st=> ?_)
  focus ((try (apply wO pk;exact rfl));(repeat' (first|(show All _;constructor)|(show Imp _ _;constructor)|(show ImpX _ _ _ _;constructor)|(apply wC pk;(iterate 2 exact rfl))|(apply wE pk;(iterate 2 exact rfl))|(apply wX pk;exact rfl)|(apply wN pk;exact rfl)|(apply wD pk [] [];kernel_rfl;exact rfl;exact rfl)|(apply aB;simp only [zqt,zqf])|(refine aD rfl (fun h=> ?_) (fun h=> ?_)<;>(try simp at h)<;>try (exfalso;omega))|(refine aF ?_;refine ⟨_,_,_,rfl,Wk.refl _,StSub.refl _, ?_,rfl⟩;try rfl)|(intros;(try simp only [zql]);omega))))
  refine aO (X:={x:Nat×Nat//x.1≤b.length∧x.2=tot (b.take x.1)∧x.2≤x.1*200000000000000∧(x.2≤100→∀j (h:j<b.length),j<x.1→∀l∈b[j].lines,eF l=true)}) (fun i=>((((St.nil 56 st).var 1 27 ((bsC b))).pv 3 ((PV.val (Value.int .i64 ((i.1.2:Nat)))))).pv 4 ((PV.val (Value.int .i64 ((i.1.1:Nat))))))) (fun i=>b.length-i.1.1) ⟨(0,0),by simp,rfl,by simp,by simp⟩ ?_ (fun i=> ?_)
  · ((repeat (first|refine Sub.pv ?_ rfl|refine Sub.var ?_ rfl rfl));exact Sub.nil _ _ _ (StSub.refl _) rfl)
  obtain ⟨⟨i,n⟩,hi,hn,hb2,hS⟩:=i
  simp only at hi hn hb2 hS
  dsimp only
  by_cases hend:b.length≤i
  have e:decide ((n:Int)≤100)=(decide (tot b≤100)&&b.all fun d=>d.lines.all eF):=by
    rw [List.take_of_length_le hend] at hn
    subst hn
    by_cases q:tot b≤100
    · rw [decide_eq_true (by omega),decide_eq_true q,Bool.true_and,eq_comm,List.all_eq_true]
      intro d hd'
      obtain ⟨j,hj,rfl⟩:=List.getElem_of_mem hd'
      rw [List.all_eq_true]
      exact hS q j hj (by omega)
    · rw [decide_eq_false (by omega),decide_eq_false q];rfl
  have e2:decide ((b.length:Int)≤20)=decide (b.length≤20):=by rw [decide_eq_decide];omega
  rotate_left
  have hil:i<b.length:=by omega
  obtain ⟨d1,d2⟩:=hd _ (List.getElem_mem hil)
  have ht:=alJ hil
  have hF:=fun y h=>atZ (y:=y) hil h
  focus ((try (apply wO pk;exact rfl));(repeat' (first|(show All _;constructor)|(show Imp _ _;constructor)|(show ImpX _ _ _ _;constructor)|(apply wC pk;(iterate 2 exact rfl))|(apply wE pk;(iterate 2 exact rfl))|(apply wX pk;exact rfl)|(apply wN pk;exact rfl)|(apply wD pk [] [];kernel_rfl;exact rfl;exact rfl)|(apply aB;simp only [zqt,zqf])|(refine aD rfl (fun h=> ?_) (fun h=> ?_)<;>(try simp at h)<;>try (exfalso;omega))|(refine aF ?_;refine ⟨_,_,_,rfl,Wk.refl _,StSub.refl _, ?_,rfl⟩;try rfl)|(apply aW pk;(iterate 6 exact rfl);rotate_left;exact rfl;(intro hw;exact rfl);(intro hw;apply aI<;>omega);(intro _;exact rfl);exact rfl)|(intros;(try simp only [zql]);omega))))
  refine aO (X:={x:Nat//x≤b[i].lines.length∧(n+b[i].lines.length≤100→∀j (h:j<b[i].lines.length),j<x→eF b[i].lines[j]=true)}) (fun y=>(((((St.nil 56 st).var 1 27 ((bsC b))).pv 3 ((PV.val (Value.int .i64 (((n+b[i].lines.length:Nat):Int)))))).pv 4 ((PV.val (Value.int .i64 ((i:Nat)))))).pv 5 ((PV.val (Value.int .i64 ((y.1:Nat))))))) (fun y=>b[i].lines.length-y.1) ⟨0,by omega,by omega⟩ ?_ (fun y=> ?_)
  · ((repeat (first|refine Sub.pv ?_ rfl|refine Sub.var ?_ rfl rfl|refine Sub.pv' ?_ rfl (by (congr 2;rw [zql];omega))|refine Sub.var' ?_ rfl rfl (by (congr 2;rw [zql];omega))));exact Sub.nil _ _ _ (StSub.refl _) rfl)
  obtain ⟨y,hy,hyS⟩:=y
  dsimp only
  have hnx:¬(y<b[i].lines.length∧n+b[i].lines.length≤100)→(n+b[i].lines.length≤100→∀j (h:j<b.length),j<i+1→∀l∈b[j].lines,eF l=true):=fun h q j hj hji l hl=>by
    rcases Nat.lt_succ_iff_lt_or_eq.1 hji with r|r
    · exact hS (by omega) j hj r l hl
    · subst r
      obtain ⟨z,hz,rfl⟩:=List.getElem_of_mem hl
      exact hyS q z hz (by omega)
  have hn2:n+b[i].lines.length=tot (b.take (i+1)):=by omega
  by_cases hend2:b[i].lines.length≤y
  rotate_left
  have hyl:y<b[i].lines.length:=by omega
  have hs:=uJ b[i].lines[y] (d2 _ (List.getElem_mem hyl))
  have hF2:=hF y hyl
  have hSt:eF b[i].lines[y]=true→(n+b[i].lines.length≤100→∀j (h:j<b[i].lines.length),j<y+1→eF b[i].lines[j]=true):=fun h q j hj hjy=>by
    rcases Nat.lt_succ_iff_lt_or_eq.1 hjy with r|r
    · exact hyS q j hj r
    · subst r;exact h
  generalize hG:eF b[i].lines[y]=G at*
  cases G
  rotate_left
  rotate_left
  all_goals ((try (apply wO pk;exact rfl));(repeat' (first|(show All _;constructor)|(show Imp _ _;constructor)|(show ImpX _ _ _ _;constructor)|(apply wC pk;(iterate 2 exact rfl))|(apply wE pk;(iterate 2 exact rfl))|(apply wX pk;exact rfl)|(apply wN pk;exact rfl)|(apply wD pk [] [];kernel_rfl;exact rfl;exact rfl)|(apply aB;simp only [zqt,zqf])|(refine aD rfl (fun h=> ?_) (fun h=> ?_)<;>(try simp at h)<;>try (exfalso;omega))|(refine aF ?_;refine ⟨_,_,_,rfl,Wk.refl _,StSub.refl _, ?_,rfl⟩;try first|rfl|((first|((rw [zql];unfold pF;rw [←e,←e2]);done)|((rw [hF2 rfl]);done));done))|(apply aN;(iterate 3 exact rfl);(intro _;apply hs<;>first|assumption|omega);rotate_left;(iterate 2 exact rfl))|(apply aW pk;(iterate 6 exact rfl);rotate_left;exact rfl;(intro hw;exact rfl);(intro hw;apply aI<;>omega);(intro _;exact rfl);exact rfl)|((first|refine ⟨⟨(i+1,n+b[i].lines.length),by simp only;omega,hn2,by simp only;omega,hnx (by omega)⟩, ?_,by simp only;omega⟩|refine ⟨⟨y+1,by omega,hSt rfl⟩, ?_,by simp only;omega⟩);((repeat (first|refine Sub.pv ?_ rfl|refine Sub.var ?_ rfl rfl));exact Sub.nil _ _ _ (StSub.refl _) rfl))|(intros;(try simp only [zql]);omega))))
end Go.Proofs.YtddmbnddgiebgaaGreatDoor
namespace Go.Proofs.YtddmbnddgiebgaaGreatDoor
open Go Go.Abs
attribute [local irreducible] Ev PWp
set_option maxRecDepth 10000
set_option maxHeartbeats 4000000
def LnS (l:Ln):Prop:=l.by_.length≤1000∧l.cells_.length≤1000∧∀c∈l.cells_,c.parts.length≤1000
def BsS (n:Nat) (b:Bs):Prop:=b.length≤20∧∀d∈b,d.lines.length≤n∧∀l∈d.lines,LnS l
theorem arO {l:Ln} (h:eF l=true):LnS l:=by
  unfold eF at h
  simp only [Bool.and_eq_true,decide_eq_true_eq,List.all_eq_true,jJ] at h
  exact ⟨by omega,by omega,fun c hc=>by have:=(h.1 c hc).1;omega⟩
theorem auV {b:Bs} (h:pF b=true):BsS 100 b:=by
  unfold pF at h
  simp only [Bool.and_eq_true,decide_eq_true_eq,List.all_eq_true] at h
  obtain ⟨h1,h2,h3⟩:=h
  refine ⟨h1,fun d hd=>⟨?_,fun l hl=>arO (h3 d hd l hl)⟩⟩
  obtain ⟨j,hj,rfl⟩:=List.getElem_of_mem hd
  have e1:=alJ hj
  have e2:=atH b (j+1)
  omega
theorem BsS.up {n m:Nat} {b:Bs} (h:BsS n b) (hm:n≤m):BsS m b:=⟨h.1,fun d hd=>⟨Nat.le_trans (h.2 d hd).1 hm,(h.2 d hd).2⟩⟩
theorem BsS.lines {n:Nat} {b:Bs} (h:BsS n b) (k:Int):(bN b k).length≤n∧∀l∈bN b k,LnS l:=by
  unfold bN
  split
  · rename_i q
    simp only [okT,Bool.and_eq_true,decide_eq_true_eq] at q
    have hk:k.toNat<b.length:=by omega
    rw [getElem!_pos b k.toNat hk]
    exact h.2 _ (List.getElem_mem hk)
  · exact ⟨Nat.zero_le _,fun l hl=>by cases hl⟩
theorem BsS.set {n:Nat} {b:Bs} (h:BsS n b) (k:Int) {ls:List Ln} (h1:ls.length≤n) (h2:∀l∈ls,LnS l):BsS n (jW b k ls):=by
  refine ⟨by rw [aaV];exact h.1,fun d hd=> ?_⟩
  unfold jW at hd
  split at hd
  · rcases List.mem_or_eq_of_mem_set hd with q|q
    · exact h.2 d q
    · subst q;exact ⟨h1,h2⟩
  · exact h.2 d hd
theorem anC {L:List Ln} {a x:Ln} (h:x∈xT L a):x=a∨x∈L:=by
  unfold xT dD at h
  split at h
  · exact (List.mem_or_eq_of_mem_set h).symm
  · simp only [List.mem_append,List.mem_singleton] at h
    rcases h with (h|h)|h
    · exact .inr (List.mem_of_mem_take h)
    · exact .inl h
    · exact .inr (List.mem_of_mem_drop h)
theorem akH (L:List Ln) (a:Ln):(xT L a).length≤L.length+1:=by
  unfold xT
  split
  · simp
  · obtain ⟨j,hj,e,_⟩:=zG L a.key
    rw [e,Int.toNat_natCast,aeH hj];exact Nat.le_refl _
theorem BsS.put {n:Nat} {b:Bs} (h:BsS n b) (k:Int) {a:Ln} (ha:LnS a):BsS (n+1) (zU b k a):=by
  rw [amK]
  refine (h.up (Nat.le_succ n)).set k ?_ fun l hl=> ?_
  · have:=akH (bN b k) a;have:=(h.lines k).1;omega
  · rcases anC hl with rfl|q
    · exact ha
    · exact (h.lines k).2 l q
theorem BsS.drop {n:Nat} {b:Bs} (h:BsS n b) (k key:Int):BsS n (alN b k key):=by
  rw [aiU]
  refine h.set k ?_ fun l hl=> ?_
  · split
    · exact Nat.le_trans (List.length_eraseIdx_le ..) (h.lines k).1
    · exact (h.lines k).1
  · split at hl
    · exact (h.lines k).2 l (List.mem_of_mem_eraseIdx hl)
    · exact (h.lines k).2 l hl
theorem BsS.p {n:Nat} {b:Bs} (h:BsS n b) (hn:n≤1000):∀d∈b,d.lines.length<1000000000000∧∀x∈d.lines,x.by_.length<1000000000000∧x.cells_.length<1000000000000∧∀c∈x.cells_,c.parts.length<1000000000000:=fun d hd=>by
  obtain ⟨h1,h2⟩:=h.2 d hd
  refine ⟨by omega,fun x hx=> ?_⟩
  obtain ⟨q1,q2,q3⟩:=h2 x hx
  exact ⟨by omega,by omega,fun c hc=>by have:=q3 c hc;omega⟩
theorem BsS.l {n:Nat} {b:Bs} (h:BsS n b) (hn:n≤1000):b.length<100000000000∧∀d∈b,d.lines.length<100000000000:=⟨by have:=h.1;omega,fun d hd=>by have:=(h.2 d hd).1;omega⟩
theorem adB {n:Nat} {b:Bs} (h:BsS n b) (hn:n≤1000) (c:Bs):PF Tryz.prog 13 [.agg (bsC b), .agg (bsC c)] (PV.val (Value.bool (decide (b=c)))):=aeS b c (by have:=h.1;omega) (h.p hn)
def BsB (b:Bs):Prop:=b.length<200000000000000∧∀d∈b,d.lines.length<200000000000000∧∀l∈d.lines,l.cells_.length<4611686018427387904
end Go.Proofs.YtddmbnddgiebgaaGreatDoor
