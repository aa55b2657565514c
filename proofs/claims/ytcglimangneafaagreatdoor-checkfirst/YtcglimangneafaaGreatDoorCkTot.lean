import Derived.Test.YtcglimangneafaaGreatDoorCkAsk
import Derived.Test.YtcglimangneafaaGreatDoorCkRow
import Derived.Test.YtcglimangneafaaGreatDoorCkNum
import Derived.Test.YtcglimangneafaaGreatDoorBsMulti
set_option linter.unusedSimpArgs false
set_option linter.unusedVariables false
namespace Go.Proofs.YtcglimangneafaaGreatDoor
open Go Go.Abs
attribute [local irreducible] Ev PWp
set_option maxRecDepth 10000
set_option maxHeartbeats 4000000
structure TotOK (m:Su) (rows:List (List Vl)):Prop where
  len:rows.length≤2000
  c0:0≤m.col
  b0:0≤m.by_
  cl:∀r∈rows,m.col<r.length∧m.by_<r.length
  num:∀r∈rows,(-1099511627776≤r[m.col.toNat]!.n∧r[m.col.toNat]!.n≤1099511627776)∧(r[m.col.toNat]!.kind≠1→r[m.col.toNat]!.n=0)
theorem TotOK.ns {m:Su} {rows:List (List Vl)} (h:TotOK m rows):anZ m rows:=fun r hr=>(h.num r hr).2
theorem rI {m:Su} {g:Int}:∀{rows:List (List Vl)},(∀r∈rows, -1099511627776≤r[m.col.toNat]!.n∧r[m.col.toNat]!.n≤1099511627776)→ -1099511627776*(rows.length:Int)≤eP m g rows∧eP m g rows≤1099511627776*(rows.length:Int)
  |[],_=>by simp [eP]
  |r::rows,h=>by
    have ih:=rI (m:=m) (g:=g) (rows:=rows) fun x hx=>h x (List.mem_cons_of_mem _ hx)
    have h0:=h r (List.mem_cons_self ..)
    rw [aaQ]
    have: -1099511627776≤oM m g r∧oM m g r≤1099511627776:=by
      unfold oM
      split
      · exact h0
      · omega
    simp only [List.length_cons]
    omega
theorem arW {m:Su} {rows:List (List Vl)} (h:anZ m rows) (g:Int):(cD g (jW m rows)).getD 0=eP m g rows:=by
  have:=zQ g [] h
  simp only [cD,Option.getD_none,Int.zero_add] at this
  exact this
theorem asI {m:Su} {rows:List (List Vl)} {k:Nat} (h:k<rows.length):nY m (rows.take (k+1))=(nY m (rows.take k)&&decide (rows[k][m.col.toNat]!.n≥0)):=by
  unfold nY
  rw [List.take_succ_eq_append_getElem h,List.all_append];simp
theorem sF (m:Su) (rows:List (List Vl)) (h:TotOK m rows):PF Tryz.prog 46 [.agg m.cells, .seq (rows.map roC)] (.tup [.fmap (bH Ie gL (jW m rows)),(PV.val (Value.bool (nY m rows)))]):=by
  have hlen:=h.len
  refine aK aG Tryz.func46 (by kernel_rfl) rfl rfl rfl rfl (fun st=> ?_)
  focus ((try (apply wO pk;exact rfl));(repeat' (first|((apply mkM (enc:=Ie) (f:=gL);exact rfl;intro id hid))|(show All _;constructor)|(show Imp _ _;constructor)|(show ImpX _ _ _ _;constructor)|(apply wC pk;(iterate 2 exact rfl))|(apply wE pk;(iterate 2 exact rfl))|(apply wX pk;exact rfl)|(apply wN pk;exact rfl)|(apply wD pk [] [];kernel_rfl;exact rfl;exact rfl)|(apply aB;simp only [zqt,zqf])|(refine aC rfl (fun h=> ?_) (fun h=> ?_)<;>(try simp at h)<;>try (exfalso;omega))|(refine aD ?_;first|(refine ⟨_,_,_,rfl,Wk.refl _,StSub.refl _, ?_,rfl⟩;(first|rfl))|(refine ⟨_,_,_,rfl,Wk.refl _,aH (by assumption), ?_,rfl⟩;(first|rfl))|(refine ⟨_,_,_,rfl,Wk.soft _,StSub.refl _, ?_,rfl⟩;(first|rfl))|(refine ⟨_,_,_,rfl,Wk.soft _,aH (by assumption), ?_,rfl⟩;(first|rfl))|(refine ⟨_,_,_,rfl,Wk.refl _,StSub.refl _, ?_,rfl⟩)|(refine ⟨_,_,_,rfl,Wk.soft _,aH (by assumption), ?_,rfl⟩))|(intros;(try simp only [zql]);omega))))
  have hid0:st id=none:=hid
  clear hid
  refine aP (X:={x:Nat//x≤rows.length}) (fun i=>(((((((St.nil 52 (upd st id (some (.map (bH Ie gL (jW m (rows.take i.1))))))).var 2 63 (m.cells)).pv 6 (.mref id)).pv 7 ((PV.val (Value.bool (nY m (rows.take i.1)))))).pv 11 (.seq (rows.map roC))).pv 12 ((PV.val (Value.int .i64 ((((rows.map roC)).length:Nat)))))).pv 13 ((PV.val (Value.int .i64 ((i.1:Nat))))))) (fun i=>rows.length-i.1) ⟨0,by omega⟩ ?_ (fun i=> ?_)
  · (first|exact Sub.nil _ _ _ (StSub.refl _) rfl|((repeat (first|refine Sub.pv ?_ rfl|refine Sub.var ?_ rfl rfl));(first|exact Sub.nil _ _ _ (StSub.refl _) rfl|exact Sub.nil _ _ _ (aQ (by assumption)) rfl|exact Sub.nil _ _ _ (aJ (by first|rfl|exact aV (by assumption)|((simp only [St.pv,St.put,St.sst,St.setv,St.nil,St.var,aN]);first|done|rfl))) rfl|(refine Sub.nil _ _ _ (aJ ?_) rfl;(simp only [St.pv,St.put,St.sst,St.setv,St.nil,St.var,aN]);(rw [cX (by assumption)]);first|done|rfl))))
  obtain ⟨i,hi⟩:=i
  dsimp only
  by_cases hend:rows.length≤i
  · rw [List.take_of_length_le hend]
    (try (apply wO pk;exact rfl));(repeat' (first|((apply oJ 4;exact rfl;exact aA _ _ _))|((refine aD ?_;exact ⟨_,_,st,rfl,Wk.refl _,gV hid0,rfl,rfl⟩))|(show All _;constructor)|(show Imp _ _;constructor)|(show ImpX _ _ _ _;constructor)|(apply wC pk;(iterate 2 exact rfl))|(apply wE pk;(iterate 2 exact rfl))|(apply wX pk;exact rfl)|(apply wN pk;exact rfl)|(apply wD pk [] [];kernel_rfl;exact rfl;exact rfl)|(apply aB;simp only [zqt,zqf])|(refine aC rfl (fun h=> ?_) (fun h=> ?_)<;>(try simp at h)<;>try (exfalso;omega))|(refine aD ?_;first|(refine ⟨_,_,_,rfl,Wk.refl _,StSub.refl _, ?_,rfl⟩;(first|rfl))|(refine ⟨_,_,_,rfl,Wk.refl _,aH (by assumption), ?_,rfl⟩;(first|rfl))|(refine ⟨_,_,_,rfl,Wk.soft _,StSub.refl _, ?_,rfl⟩;(first|rfl))|(refine ⟨_,_,_,rfl,Wk.soft _,aH (by assumption), ?_,rfl⟩;(first|rfl))|(refine ⟨_,_,_,rfl,Wk.refl _,StSub.refl _, ?_,rfl⟩)|(refine ⟨_,_,_,rfl,Wk.soft _,aH (by assumption), ?_,rfl⟩))|(intros;(try simp only [zql]);omega)))
  have hil:i<rows.length:=by omega
  obtain ⟨c1,c2⟩:=h.cl _ (List.getElem_mem hil)
  have hc0:=h.c0
  have hb0:=h.b0
  have n1:=(h.num _ (List.getElem_mem hil)).1
  have hns:anZ m (rows.take i):=fun r hr=>h.ns r (List.mem_of_mem_take hr)
  have hg:=arW hns rows[i][m.by_.toNat]!.n
  have hbd:=rI (m:=m) (g:=rows[i][m.by_.toNat]!.n) (rows:=rows.take i) fun r hr=>(h.num r (List.mem_of_mem_take hr)).1
  have hti:(rows.take i).length≤2000:=by rw [List.length_take];omega
  have hup:=atE m hil
  have hpu:=asI (m:=m) hil
  have hci:m.col=((m.col.toNat:Nat):Int):=by omega
  have hbi:m.by_=((m.by_.toNat:Nat):Int):=by omega
  have l1:m.col.toNat<rows[i].length:=by omega
  have l2:m.by_.toNat<rows[i].length:=by omega
  rw [hg] at hup
  have g1:=getElem!_pos rows[i] m.col.toNat l1
  have g2:=getElem!_pos rows[i] m.by_.toNat l2
  rw [g2] at hg hbd
  rw [g1,g2] at hup
  rw [g1] at hpu n1
  clear g1 g2
  generalize jW m (rows.take i)=M at*
  generalize nY m (rows.take i)=G at*
  generalize eP m rows[i][m.by_.toNat].n (rows.take i)=T at*
  have t1: -2199023255552000≤T:=by omega
  have t2:T≤2199023255552000:=by omega
  clear hbd
  by_cases hk:rows[i][m.by_.toNat].kind=1
  · rw [if_pos hk] at hup
    (try (apply wO pk;exact rfl));(repeat' (first|(apply wD pk [15] [7];kernel_rfl;exact rfl;exact rfl)|(show All _;constructor)|(show Imp _ _;constructor)|(show ImpX _ _ _ _;constructor)|(apply wC pk;(iterate 2 exact rfl))|(apply wE pk;(iterate 2 exact rfl))|(apply wX pk;exact rfl)|(apply wN pk;exact rfl)|(apply wD pk [] [];kernel_rfl;exact rfl;exact rfl)|(apply aB;simp only [zqt,zqf])|(refine aC rfl (fun h=> ?_) (fun h=> ?_)<;>(try simp at h)<;>try (exfalso;omega))|(refine aD ?_;first|(refine ⟨_,_,_,rfl,Wk.refl _,StSub.refl _, ?_,rfl⟩;(first|rfl))|(refine ⟨_,_,_,rfl,Wk.refl _,aH (by assumption), ?_,rfl⟩;(first|rfl))|(refine ⟨_,_,_,rfl,Wk.soft _,StSub.refl _, ?_,rfl⟩;(first|rfl))|(refine ⟨_,_,_,rfl,Wk.soft _,aH (by assumption), ?_,rfl⟩;(first|rfl))|(refine ⟨_,_,_,rfl,Wk.refl _,StSub.refl _, ?_,rfl⟩)|(refine ⟨_,_,_,rfl,Wk.soft _,aH (by assumption), ?_,rfl⟩))|(apply bC pk;(iterate 6 exact rfl);rotate_left;exact rfl;(first|((intro hw;exact rfl);(intro hw;apply aM<;>omega);(intro _;exact rfl))|((intro hw;exact (by first|exact hci|exact hbi));(intro hw;apply aM<;>omega);(intro _;exact rfl)));exact rfl)|(apply lkD pk qU (f:=gL) (z:=0) (k:=rows[i][m.by_.toNat].n) (n:=T);(iterate 5 exact rfl);rotate_left;exact rfl;exact aA _ _ _;exact rfl;exact hg)|(apply muA pk qU (f:=gL) (k:=rows[i][m.by_.toNat].n) (v:=T+rows[i][m.col.toNat].n);(first|exact .inl rfl|exact .inr rfl);(iterate 5 exact rfl);exact aA _ _ _;exact rfl)|(refine ⟨⟨i+1,by omega⟩, ?_,by simp only;omega⟩;((dsimp only;rw [hup,hpu]));(first|exact Sub.nil _ _ _ (StSub.refl _) rfl|((repeat (first|refine Sub.pv ?_ rfl|refine Sub.var ?_ rfl rfl));(first|exact Sub.nil _ _ _ (StSub.refl _) rfl|exact Sub.nil _ _ _ (aQ (by assumption)) rfl|exact Sub.nil _ _ _ (aJ (by first|rfl|exact aV (by assumption)|((simp only [St.pv,St.put,St.sst,St.setv,St.nil,St.var,aN]);first|done|rfl))) rfl|(refine Sub.nil _ _ _ (aJ ?_) rfl;(simp only [St.pv,St.put,St.sst,St.setv,St.nil,St.var,aN]);(rw [cX (by assumption)]);first|done|rfl)))))|(intros;(try simp only [zql]);omega)))
  · rw [if_neg hk] at hup
    (try (apply wO pk;exact rfl));(repeat' (first|(show All _;constructor)|(show Imp _ _;constructor)|(show ImpX _ _ _ _;constructor)|(apply wC pk;(iterate 2 exact rfl))|(apply wE pk;(iterate 2 exact rfl))|(apply wX pk;exact rfl)|(apply wN pk;exact rfl)|(apply wD pk [] [];kernel_rfl;exact rfl;exact rfl)|(apply aB;simp only [zqt,zqf])|(refine aC rfl (fun h=> ?_) (fun h=> ?_)<;>(try simp at h)<;>try (exfalso;omega))|(refine aD ?_;first|(refine ⟨_,_,_,rfl,Wk.refl _,StSub.refl _, ?_,rfl⟩;(first|rfl))|(refine ⟨_,_,_,rfl,Wk.refl _,aH (by assumption), ?_,rfl⟩;(first|rfl))|(refine ⟨_,_,_,rfl,Wk.soft _,StSub.refl _, ?_,rfl⟩;(first|rfl))|(refine ⟨_,_,_,rfl,Wk.soft _,aH (by assumption), ?_,rfl⟩;(first|rfl))|(refine ⟨_,_,_,rfl,Wk.refl _,StSub.refl _, ?_,rfl⟩)|(refine ⟨_,_,_,rfl,Wk.soft _,aH (by assumption), ?_,rfl⟩))|(apply bC pk;(iterate 6 exact rfl);rotate_left;exact rfl;(first|((intro hw;exact rfl);(intro hw;apply aM<;>omega);(intro _;exact rfl))|((intro hw;exact (by first|exact hci|exact hbi));(intro hw;apply aM<;>omega);(intro _;exact rfl)));exact rfl)|(refine ⟨⟨i+1,by omega⟩, ?_,by simp only;omega⟩;((dsimp only;rw [hup,hpu]));(first|exact Sub.nil _ _ _ (StSub.refl _) rfl|((repeat (first|refine Sub.pv ?_ rfl|refine Sub.var ?_ rfl rfl));(first|exact Sub.nil _ _ _ (StSub.refl _) rfl|exact Sub.nil _ _ _ (aQ (by assumption)) rfl|exact Sub.nil _ _ _ (aJ (by first|rfl|exact aV (by assumption)|((simp only [St.pv,St.put,St.sst,St.setv,St.nil,St.var,aN]);first|done|rfl))) rfl|(refine Sub.nil _ _ _ (aJ ?_) rfl;(simp only [St.pv,St.put,St.sst,St.setv,St.nil,St.var,aN]);(rw [cX (by assumption)]);first|done|rfl)))))|(intros;(try simp only [zql]);omega)))
theorem vL {α β:Type} (f:α→β):∀(l:List α) (i:Nat),(l.map f).eraseIdx i=(l.eraseIdx i).map f
  |[],_=>rfl
  |_::_,0=>rfl
  |a::l,i+1=>by simp only [List.map_cons,List.eraseIdx_cons_succ,vL f l i]
theorem akG (es:List (Int×Int)) (i:Nat):(bH Ie gL es).eraseIdx i=bH Ie gL (es.eraseIdx i):=by unfold bH;rw [vL]
theorem auW {es:List (Int×Int)} {i:Nat} {e:Value×PV} (h:(bH Ie gL es)[i]?=some e):∃x,es[i]?=some x∧e=(Ie x.1,gL x.2):=by
  unfold bH at h
  rw [List.getElem?_map] at h
  cases hx:es[i]? with
  |none=>rw [hx] at h;cases h
  |some x=>rw [hx] at h;exact ⟨x,rfl,(Option.some.inj h).symm⟩
theorem aiI {es:List (Int×Int)} (h:bH Ie gL es=[]):es=[]:=by cases es with
  |nil=>rfl
  |cons x l=>cases h
theorem xF {α:Type} {p:α→Bool}:∀{l:List α} {i:Nat} {x:α},l[i]?=some x→l.all p=(p x&&(l.eraseIdx i).all p)
  |[],_,_,h=>by simp at h
  |a::l,0,x,h=>by simp at h;subst h;rfl
  |a::l,i+1,x,h=>by
    simp only [List.getElem?_cons_succ] at h
    rw [List.eraseIdx_cons_succ,List.all_cons,List.all_cons,xF h]
    cases p a<;>cases p x<;>simp
theorem auP (x:Int) (g:G):Rep g (PV.val (Value.int .i64 (x))) (Ie x):=by unfold Rep;rfl
theorem aeH (t:Tb) (rows:List (List Vl)) (b:Bs) (hx:t.sums.length<1000000000000000) (hT:∀m∈t.sums,TotOK m rows):PF Tryz.prog 39 [.agg (kQ t rows b)] (PV.val (Value.int .i64 (if mN t rows=false then 11 else 0))):=by
  have hyes:(∀j (h:j<t.sums.length),(nY t.sums[j] rows&&(jW t.sums[j] rows).all fun e=>decide (e.2≤t.sums[j].max))=true)→mN t rows=true:=fun h=>by
    unfold mN
    rw [List.all_eq_true]
    intro m hm
    obtain ⟨j,hj,rfl⟩:=List.getElem_of_mem hm
    rw [←ajK (hT _ hm).ns];exact h j hj
  have hno:∀j (h:j<t.sums.length),(nY t.sums[j] rows&&(jW t.sums[j] rows).all fun e=>decide (e.2≤t.sums[j].max))=false→mN t rows=false:=fun j hj h=>by
    unfold mN
    rw [←Bool.not_eq_true,List.all_eq_true]
    intro q
    have:=q _ (List.getElem_mem hj)
    rw [←ajK (hT _ (List.getElem_mem hj)).ns,h] at this;cases this
  generalize mN t rows=B at*
  refine aK aG Tryz.func39 (by kernel_rfl) rfl rfl rfl rfl (fun st=> ?_)
  focus ((try (apply wO pk;exact rfl));(repeat' (first|(show All _;constructor)|(show Imp _ _;constructor)|(show ImpX _ _ _ _;constructor)|(apply wC pk;(iterate 2 exact rfl))|(apply wE pk;(iterate 2 exact rfl))|(apply wX pk;exact rfl)|(apply wN pk;exact rfl)|(apply wD pk [] [];kernel_rfl;exact rfl;exact rfl)|(apply aB;simp only [zqt,zqf])|(refine aC rfl (fun h=> ?_) (fun h=> ?_)<;>(try simp at h)<;>try (exfalso;omega))|(refine aD ?_;refine ⟨_,_,_,rfl,Wk.refl _,StSub.refl _, ?_,rfl⟩;try rfl)|(intros;(try simp only [zql]);omega))))
  refine aP (X:={x:Nat//x≤t.sums.length∧∀j (h:j<t.sums.length),j<x→(nY t.sums[j] rows&&(jW t.sums[j] rows).all fun e=>decide (e.2≤t.sums[j].max))=true}) (fun i=>(((((St.nil 40 st).var 1 78 ((kQ t rows b))).pv 11 (.seq (t.sums.map Su.cells))).pv 12 ((PV.val (Value.int .i64 (((t.sums.map Su.cells).length:Nat)))))).pv 13 ((PV.val (Value.int .i64 ((i.1:Nat))))))) (fun i=>t.sums.length-i.1) ⟨0,by omega,by omega⟩ ?_ (fun i=> ?_)
  · ((repeat (first|refine Sub.pv ?_ rfl|refine Sub.var ?_ rfl rfl));exact Sub.nil _ _ _ (StSub.refl _) rfl)
  obtain ⟨i,hi,hI⟩:=i
  dsimp only
  by_cases hend:t.sums.length≤i
  · have e:B=true:=hyes fun j hj=>hI j hj (by omega)
    (try (apply wO pk;exact rfl));(repeat' (first|(show All _;constructor)|(show Imp _ _;constructor)|(show ImpX _ _ _ _;constructor)|(apply wC pk;(iterate 2 exact rfl))|(apply wE pk;(iterate 2 exact rfl))|(apply wX pk;exact rfl)|(apply wN pk;exact rfl)|(apply wD pk [] [];kernel_rfl;exact rfl;exact rfl)|(apply aB;simp only [zqt,zqf])|(refine aC rfl (fun h=> ?_) (fun h=> ?_)<;>(try simp at h)<;>try (exfalso;omega))|(refine aD ?_;refine ⟨_,_,_,rfl,Wk.refl _,StSub.refl _, ?_,rfl⟩;try first|rfl|((rw [e];rfl);done))|(intros;(try simp only [zql]);omega)))
  have hil:i<t.sums.length:=by omega
  have hts:=sF t.sums[i] rows (hT _ (List.getElem_mem hil))
  have hno:=hno i hil
  have hup:(nY t.sums[i] rows&&(jW t.sums[i] rows).all fun e=>decide (e.2≤t.sums[i].max))=true→∀j (h:j<t.sums.length),j<i+1→(nY t.sums[j] rows&&(jW t.sums[j] rows).all fun e=>decide (e.2≤t.sums[j].max))=true:=fun h j hj hji=>by
    rcases Nat.lt_succ_iff_lt_or_eq.1 hji with q|q
    · exact hI j hj q
    · subst q;exact h
  generalize jW t.sums[i] rows=M at*
  generalize nY t.sums[i] rows=G at*
  focus ((try (apply wO pk;exact rfl));(repeat' (first|((apply axU pk;(iterate 5 exact rfl);intro it hit))|(show All _;constructor)|(show Imp _ _;constructor)|(show ImpX _ _ _ _;constructor)|(apply wC pk;(iterate 2 exact rfl))|(apply wE pk;(iterate 2 exact rfl))|(apply wX pk;exact rfl)|(apply wN pk;exact rfl)|(apply wD pk [] [];kernel_rfl;exact rfl;exact rfl)|(apply aB;simp only [zqt,zqf])|(refine aC rfl (fun h=> ?_) (fun h=> ?_)<;>(try simp at h)<;>try (exfalso;omega))|(refine aD ?_;first|(refine ⟨_,_,_,rfl,Wk.refl _,StSub.refl _, ?_,rfl⟩;(first|rfl))|(refine ⟨_,_,_,rfl,Wk.refl _,aH (by assumption), ?_,rfl⟩;(first|rfl))|(refine ⟨_,_,_,rfl,Wk.soft _,StSub.refl _, ?_,rfl⟩;(first|rfl))|(refine ⟨_,_,_,rfl,Wk.soft _,aH (by assumption), ?_,rfl⟩;(first|rfl))|(refine ⟨_,_,_,rfl,Wk.refl _,StSub.refl _, ?_,rfl⟩)|(refine ⟨_,_,_,rfl,Wk.soft _,aH (by assumption), ?_,rfl⟩))|(apply aL;(iterate 3 exact rfl);(intro _;apply hts<;>first|assumption|omega);rotate_left;(iterate 2 exact rfl))|(apply bC pk;(iterate 6 exact rfl);rotate_left;exact rfl;(intro hw;exact rfl);(intro hw;apply aM<;>omega);(intro _;exact rfl);exact rfl)|(intros;(try simp only [zql]);omega))))
  have hit0:st it=none:=hit
  clear hit
  refine aP (X:={x:List (Int×Int)×Bool×Option (Value×PV)//(G&&M.all fun e=>decide (e.2≤t.sums[i].max))=(x.2.1&&x.1.all fun e=>decide (e.2≤t.sums[i].max))}) (fun y=>((((((((St.nil 40 (upd st it (some (.iter y.1.2.2 (bH Ie gL y.1.1))))).var 1 78 ((kQ t rows b))).var 4 63 (t.sums[i].cells)).pv 6 ((PV.val (Value.bool (y.1.2.1))))).pv 11 (.seq (t.sums.map Su.cells))).pv 12 ((PV.val (Value.int .i64 (((t.sums.map Su.cells).length:Nat)))))).pv 13 ((PV.val (Value.int .i64 ((i:Nat)))))).pv 25 (.ref it 0))) (fun y=>y.1.1.length) ⟨(M,G,none),rfl⟩ ?_ (fun y=> ?_)
  · (first|exact Sub.nil _ _ _ (StSub.refl _) rfl|((repeat (first|refine Sub.pv ?_ rfl|refine Sub.var ?_ rfl rfl));(first|exact Sub.nil _ _ _ (StSub.refl _) rfl|exact Sub.nil _ _ _ (aQ (by assumption)) rfl|exact Sub.nil _ _ _ (aJ (by first|rfl|exact aV (by assumption)|((simp only [St.pv,St.put,St.sst,St.setv,St.nil,St.var,aN]);first|done|rfl))) rfl|(refine Sub.nil _ _ _ (aJ ?_) rfl;(simp only [St.pv,St.put,St.sst,St.setv,St.nil,St.var,aN]);(rw [cX (by assumption)]);first|done|rfl))))
  obtain ⟨⟨rest,g,cur⟩,hI2⟩:=y
  dsimp only at hI2
  dsimp only
  have hdone:bH Ie gL rest=[]→g=true→∀j (h:j<t.sums.length),j<i+1→(nY t.sums[j] rows&&(jW t.sums[j] rows).all fun e=>decide (e.2≤t.sums[j].max))=true:=fun h1 h2=>hup (by
    obtain rfl:=aiI h1
    rw [hI2,h2];rfl)
  have hfail:bH Ie gL rest=[]→g=false→B=false:=fun h1 h2=>hno (by
    obtain rfl:=aiI h1
    rw [hI2,h2];rfl)
  have hltg:∀{j:Nat} {x:Int×Int},rest[j]?=some x→(rest.eraseIdx j).length<rest.length:=fun {j x} hx=>by
    have:=(List.getElem?_eq_some_iff.1 hx).1
    rw [List.length_eraseIdx_of_lt this];omega
  have hn2:∀{j:Nat} {x:Int×Int},rest[j]?=some x→(G&&M.all fun e=>decide (e.2≤t.sums[i].max))=((g&&decide (x.2≤t.sums[i].max))&&(rest.eraseIdx j).all fun e=>decide (e.2≤t.sums[i].max)):=fun {j x} hx=>by
    rw [hI2,xF hx,Bool.and_assoc]
  clear hup hno hI2
  (try (apply wO pk;exact rfl));(repeat' (first|((refine aD ?_;exact ⟨_,_,st,rfl,Wk.refl _,(by first|exact iC hit0|exact gV hit0),(by rw [hfail (by assumption) (by assumption)];rfl),rfl⟩))|(show All _;constructor)|(show Imp _ _;constructor)|(show ImpX _ _ _ _;constructor)|(apply wC pk;(iterate 2 exact rfl))|(apply wE pk;(iterate 2 exact rfl))|(apply wX pk;exact rfl)|(apply wN pk;exact rfl)|(apply wD pk [] [];kernel_rfl;exact rfl;exact rfl)|(apply aB;simp only [zqt,zqf])|(refine aC rfl (fun h=> ?_) (fun h=> ?_)<;>(try simp at h)<;>try (exfalso;omega))|(refine aD ?_;first|(refine ⟨_,_,_,rfl,Wk.refl _,StSub.refl _, ?_,rfl⟩;(first|rfl))|(refine ⟨_,_,_,rfl,Wk.refl _,aH (by assumption), ?_,rfl⟩;(first|rfl))|(refine ⟨_,_,_,rfl,Wk.soft _,StSub.refl _, ?_,rfl⟩;(first|rfl))|(refine ⟨_,_,_,rfl,Wk.soft _,aH (by assumption), ?_,rfl⟩;(first|rfl))|(refine ⟨_,_,_,rfl,Wk.refl _,StSub.refl _, ?_,rfl⟩)|(refine ⟨_,_,_,rfl,Wk.soft _,aH (by assumption), ?_,rfl⟩))|((apply azD;exact rfl;exact aA _ _ _;(iterate 3 exact rfl);intro hleft;rotate_left;intro j e he;obtain ⟨x,hx,rfl⟩:=auW he;rw [akG];have hlt:=hltg hx;rotate_left))|((apply axK;exact rfl;exact rfl;exact aA _ _ _;exact auP x.1;rotate_left;exact rfl;exact rfl))|(refine ⟨⟨i+1,by omega,hdone (by assumption) (by assumption)⟩, ?_,by simp only;omega⟩;(first|exact Sub.nil _ _ _ (StSub.refl _) rfl|((repeat (first|refine Sub.pv ?_ rfl|refine Sub.var ?_ rfl rfl));(first|exact Sub.nil _ _ _ (by first|exact gV hit0|exact iC hit0) rfl|exact Sub.nil _ _ _ (StSub.refl _) rfl|exact Sub.nil _ _ _ (aQ (by assumption)) rfl|exact Sub.nil _ _ _ (aJ (by first|rfl|exact aV (by assumption)|((simp only [St.pv,St.put,St.sst,St.setv,St.nil,St.var,aN]);first|done|rfl))) rfl|(refine Sub.nil _ _ _ (aJ ?_) rfl;(simp only [St.pv,St.put,St.sst,St.setv,St.nil,St.var,aN]);(rw [cX (by assumption)]);first|done|rfl)))))|(refine ⟨⟨(rest.eraseIdx j,g&&decide (x.2≤t.sums[i].max),some (Ie x.1,gL x.2)),hn2 hx⟩, ?_,by simp only;omega⟩;((dsimp only));(first|exact Sub.nil _ _ _ (StSub.refl _) rfl|((repeat (first|refine Sub.pv ?_ rfl|refine Sub.var ?_ rfl rfl));(first|exact Sub.nil _ _ _ (by first|exact gV hit0|exact iC hit0) rfl|exact Sub.nil _ _ _ (StSub.refl _) rfl|exact Sub.nil _ _ _ (aQ (by assumption)) rfl|exact Sub.nil _ _ _ (aJ (by first|rfl|exact aV (by assumption)|((simp only [St.pv,St.put,St.sst,St.setv,St.nil,St.var,aN]);first|done|rfl))) rfl|(refine Sub.nil _ _ _ (aJ ?_) rfl;(simp only [St.pv,St.put,St.sst,St.setv,St.nil,St.var,aN]);(rw [cX (by assumption)]);first|done|rfl)))))|(intros;(try simp only [zql]);omega)))
end Go.Proofs.YtcglimangneafaaGreatDoor
namespace Go.Proofs.YtcglimangneafaaGreatDoor
open Go Go.Abs
attribute [local irreducible] Ev PWp
set_option maxRecDepth 10000
set_option maxHeartbeats 4000000
section
variable {tx:Cl→Int}
theorem afJ :∀c:Cl,c.kind=0→bB c=c.val:=fun c h=>by unfold bB;rw [if_pos h]
theorem rows_len {s:Sc} {b:Bs} (hg:cY tx s b=true) {k:Nat} (hk:k<s.length):(bJ bB b k).length≤2000:=by
  obtain ⟨⟨h1,h2⟩,h3⟩:=cA.1 hg
  have hkb:k<b.length:=by omega
  have:=(fG.1 (h3 k hkb)).1
  unfold bJ
  rw [iL hkb,zql]
  rw [getElem!_pos b k hkb] at this
  exact this
theorem uO {s:Sc} {b:Bs} (hg:cY tx s b=true) {k:Nat} (hk:k<s.length) {m:Su} (hm:m∈s[k].sums):TotOK m (bJ bB b k):=by
  obtain ⟨⟨h1,h2⟩,_⟩:=cA.1 hg
  have hs:=anU h1 hk hm
  refine ⟨rows_len hg hk,by have:=hs.c1;omega,by have:=hs.b1;omega,fun r hr=> ?_,fun r hr=> ?_⟩
  · have:=(rO afJ hg hk hr).len
    have:=hs.c2
    have:=hs.b2
    omega
  · have hc:=hs.c1
    have hc2:=hs.c2
    exact ahC ((rO afJ hg hk hr).num m.col.toNat (by omega) hs.kc)
theorem zH {s:Sc} (h:cC s=0) {k:Nat} (hk:k<s.length):s[k].cols.length≤16∧s[k].checks.length≤16∧s[k].unique.length≤16∧s[k].foreign.length≤16∧s[k].sums.length≤16:=by
  have h1:=eJ h hk (lk1 s[k]!) (by simp [lks])
  rw [getElem!_pos s k hk] at h1
  unfold lk1 at h1
  split at h1
  · cases h1
  · omega
theorem avO {t:Tb} {r:List Vl} (h:eW t r=0) (hl:r.length≤1000):X.rowOK r:=by
  refine ⟨by omega,fun v hv=> ?_⟩
  obtain ⟨j,hj,rfl⟩:=List.getElem_of_mem hv
  unfold eW at h
  split at h
  · have:=eV.1 h j (List.mem_range.2 hj)
    rw [getElem!_pos r j hj] at this
    unfold wP at this
    split at this
    · cases this
    · rename_i q
      have q:fF r[j]=true:=by simpa using q
      have:=(ahC q).1
      unfold X.lim
      omega
  · cases h
end
section
variable (ex:Tb→List Vl→Int) (b:Bs) (t:Tb) (rows:List (List Vl))
def stT :Nat→Int
  |0=>dD (eW t) rows
  |1=>if fI t rows=false then 8 else 0
  |2=>dD (ex t) rows
  |3=>if mA b t rows=false then 10 else 0
  |_=>if mN t rows=false then 11 else 0
variable {ex b t rows}
theorem aqQ (h:∀j<5,stT ex b t rows j=0):ckT ex b t rows=0:=by
  have h0:dD (eW t) rows=0:=h 0 (by omega)
  have h1:(if fI t rows=false then (8:Int) else 0)=0:=h 1 (by omega)
  have h2:dD (ex t) rows=0:=h 2 (by omega)
  have h3:(if mA b t rows=false then (10:Int) else 0)=0:=h 3 (by omega)
  have h4:(if mN t rows=false then (11:Int) else 0)=0:=h 4 (by omega)
  unfold ckT
  rw [if_neg (fun q=>q h0),if_neg (fun q=>by rw [if_pos q] at h1;cases h1),if_neg (fun q=>q h2),if_neg (fun q=>by rw [if_pos q] at h3;cases h3),if_neg (fun q=>by rw [if_pos q] at h4;cases h4)]
theorem awN {y:Nat} (hy:y<5) (hI:∀j<y,stT ex b t rows j=0) (h:stT ex b t rows y≠0):ckT ex b t rows=stT ex b t rows y:=by
  unfold ckT
  match y,hy with
  |0,_=>rw [if_pos (show dD (eW t) rows≠0 from h)];rfl
  |1,_=>
    have h0:dD (eW t) rows=0:=hI 0 (by omega)
    have q:fI t rows=false:=by
      cases e:fI t rows with
      |false=>rfl
      |true=>exact absurd (show stT ex b t rows 1=0 from by unfold stT;rw [e];rfl) h
    rw [if_neg (fun q=>q h0),if_pos q]
    exact (show stT ex b t rows 1=8 from if_pos q).symm
  |2,_=>
    have h0:dD (eW t) rows=0:=hI 0 (by omega)
    have h1:(if fI t rows=false then (8:Int) else 0)=0:=hI 1 (by omega)
    rw [if_neg (fun q=>q h0),if_neg (fun q=>by rw [if_pos q] at h1;cases h1),if_pos (show dD (ex t) rows≠0 from h)];rfl
  |3,_=>
    have h0:dD (eW t) rows=0:=hI 0 (by omega)
    have h1:(if fI t rows=false then (8:Int) else 0)=0:=hI 1 (by omega)
    have h2:dD (ex t) rows=0:=hI 2 (by omega)
    have q:mA b t rows=false:=by
      cases e:mA b t rows with
      |false=>rfl
      |true=>exact absurd (show stT ex b t rows 3=0 from by unfold stT;rw [e];rfl) h
    rw [if_neg (fun q=>q h0),if_neg (fun q=>by rw [if_pos q] at h1;cases h1),if_neg (fun q=>q h2),if_pos q]
    exact (show stT ex b t rows 3=10 from if_pos q).symm
  |4,_=>
    have h0:dD (eW t) rows=0:=hI 0 (by omega)
    have h1:(if fI t rows=false then (8:Int) else 0)=0:=hI 1 (by omega)
    have h2:dD (ex t) rows=0:=hI 2 (by omega)
    have h3:(if mA b t rows=false then (10:Int) else 0)=0:=hI 3 (by omega)
    have q:mN t rows=false:=by
      cases e:mN t rows with
      |false=>rfl
      |true=>exact absurd (show stT ex b t rows 4=0 from by unfold stT;rw [e];rfl) h
    rw [if_neg (fun q=>q h0),if_neg (fun q=>by rw [if_pos q] at h1;cases h1),if_neg (fun q=>q h2),if_neg (fun q=>by rw [if_pos q] at h3;cases h3),if_pos q]
    exact (show stT ex b t rows 4=11 from if_pos q).symm
end
structure CkB (n:Nat) (s:Sc) (b:Bs):Prop where
  sb:ScB s
  len:s.length≤20
  col:∀t∈s,t.cols.length<10000000000
  chk:∀t∈s,pS t
  bs:BsS n b
  hn:n≤1000
noncomputable def mayC (s:Sc) (b:Bs):Bool:=decide (rightC s=0)&&cY T.rightP s b
noncomputable def whyC (s:Sc) (b:Bs):Int:=if mayC s b=true then ckW bB exR s b else 1
noncomputable def totC (s:Sc) (b:Bs) (table sum group:Int):Int:=
  open Classical in if _h:mayC s b=true∧(0≤table∧table<s.length)∧(0≤sum∧sum<s[table.toNat]!.sums.length) then eP s[table.toNat]!.sums[sum.toNat]! group (bJ bB b table) else 0
theorem iS {s:Sc} (h:rightC s=0):cC s=0:=by
  unfold rightC at h
  split at h
  · assumption
  · rename_i q;exact absurd h q
section
variable {n:Nat} {s:Sc} {b:Bs} (hB:CkB n s b)
include hB
theorem CkB.right :PF Tryz.prog 11 [.agg (scC s)] (PV.val (Value.int .i64 (rightC s))):=abY s (by have:=hB.len;omega) hB.sb hB.chk hB.col
theorem gO :PF Tryz.prog 34 [.agg (scC s), .agg (bsC b)] (PV.val (Value.bool (mayC s b))):=by
  have h1:=hB.right
  have h2:=nH hB.bs hB.hn hB.sb hB.len
  unfold mayC
  generalize rightC s=R at*
  generalize cY T.rightP s b=B at*
  refine aK aG Tryz.func34 (by kernel_rfl) rfl rfl rfl rfl (fun st=> ?_)
  (try (apply wO pk;exact rfl));(repeat' (first|(show All _;constructor)|(show Imp _ _;constructor)|(show ImpX _ _ _ _;constructor)|(apply wC pk;(iterate 2 exact rfl))|(apply wE pk;(iterate 2 exact rfl))|(apply wX pk;exact rfl)|(apply wN pk;exact rfl)|(apply wD pk [] [];kernel_rfl;exact rfl;exact rfl)|(apply aB;simp only [zqt,zqf])|(refine aC rfl (fun h=> ?_) (fun h=> ?_)<;>(try simp at h)<;>try (exfalso;omega))|(refine aD ?_;refine ⟨_,_,_,rfl,Wk.refl _,StSub.refl _, ?_,rfl⟩;try rfl)|(apply aL;(iterate 3 exact rfl);(intro _;(first|apply h1|apply h2)<;>first|assumption|omega);rotate_left;(iterate 2 exact rfl))|(intros;(try simp only [zql]);omega)))
theorem jK {k:Nat} (hk:k<b.length):PF Tryz.prog 17 [.agg (bsC b),(PV.val (Value.int .i64 ((k:Nat))))] (.seq ((bJ bB b k).map roC)):=by
  obtain ⟨hL1,hL2⟩:=hB.bs.2 _ (List.getElem_mem hk)
  have hn:=hB.hn
  have e:bJ bB b k=b[k].lines.map (vW bB):=by unfold bJ;rw [iL hk];rfl
  rw [e]
  exact afC bB b k hk (by omega) fun l hl=>by
    obtain ⟨u1,u2,u3⟩:=hL2 l hl
    exact ⟨by omega,fun c hc=>aiL c (u3 c hc)⟩
theorem gQ :PF Tryz.prog 13 [.agg (scC s), .agg (bsC b)] (PV.val (Value.int .i64 (whyC s b))):=by
  have hm:=gO hB
  have hsl:=hB.len
  cases hmay:mayC s b with
  |false=>
    rw [hmay] at hm
    have e:whyC s b=1:=by unfold whyC;rw [hmay];rfl
    rw [e]
    refine aK aG Tryz.func13 (by kernel_rfl) rfl rfl rfl rfl (fun st=> ?_)
    (try (apply wO pk;exact rfl));(repeat' (first|(show All _;constructor)|(show Imp _ _;constructor)|(show ImpX _ _ _ _;constructor)|(apply wC pk;(iterate 2 exact rfl))|(apply wE pk;(iterate 2 exact rfl))|(apply wX pk;exact rfl)|(apply wN pk;exact rfl)|(apply wD pk [] [];kernel_rfl;exact rfl;exact rfl)|(apply aB;simp only [zqt,zqf])|(refine aC rfl (fun h=> ?_) (fun h=> ?_)<;>(try simp at h)<;>try (exfalso;omega))|(refine aD ?_;refine ⟨_,_,_,rfl,Wk.refl _,StSub.refl _, ?_,rfl⟩;try rfl)|(apply aL;(iterate 3 exact rfl);(intro _;apply hm<;>first|assumption|omega);rotate_left;(iterate 2 exact rfl))|(intros;(try simp only [zql]);omega)))
  |true=>
  rw [hmay] at hm
  have e:whyC s b=ckW bB exR s b:=by unfold whyC;rw [hmay];rfl
  rw [e]
  clear e
  unfold mayC at hmay
  rw [Bool.and_eq_true,decide_eq_true_eq] at hmay
  obtain ⟨hrc,hg⟩:=hmay
  have hrs:=iS hrc
  obtain ⟨⟨_,hbl⟩,_⟩:=cA.1 hg
  have hfin0:(∀j<s.length,ckT exR b s[j]! (bJ bB b j)=0)→ckW bB exR s b=0:=fun h=>wW h
  have hfin1:∀i<s.length,(∀j<i,ckT exR b s[j]! (bJ bB b j)=0)→ckT exR b s[i]! (bJ bB b i)≠0→ckW bB exR s b=ckT exR b s[i]! (bJ bB b i):=fun i hi h1 h2=>ajJ (f:=fun k:Nat=>ckT exR b s[k]! (bJ bB b k)) hi h1 h2
  generalize ckW bB exR s b=W at*
  refine aK aG Tryz.func13 (by kernel_rfl) rfl rfl rfl rfl (fun st=> ?_)
  focus ((try (apply wO pk;exact rfl));(repeat' (first|(show All _;constructor)|(show Imp _ _;constructor)|(show ImpX _ _ _ _;constructor)|(apply wC pk;(iterate 2 exact rfl))|(apply wE pk;(iterate 2 exact rfl))|(apply wX pk;exact rfl)|(apply wN pk;exact rfl)|(apply wD pk [] [];kernel_rfl;exact rfl;exact rfl)|(apply aB;simp only [zqt,zqf])|(refine aC rfl (fun h=> ?_) (fun h=> ?_)<;>(try simp at h)<;>try (exfalso;omega))|(refine aD ?_;refine ⟨_,_,_,rfl,Wk.refl _,StSub.refl _, ?_,rfl⟩;try rfl)|(apply aL;(iterate 3 exact rfl);(intro _;apply hm<;>first|assumption|omega);rotate_left;(iterate 2 exact rfl))|(intros;(try simp only [zql]);omega))))
  refine aP (X:={x:Nat//x≤s.length∧∀j<x,ckT exR b s[j]! (bJ bB b j)=0}) (fun i=>(((((St.nil 41 st).var 3 27 ((bsC b))).pv 16 (.seq (s.map Tb.cells))).pv 17 ((PV.val (Value.int .i64 (((s.map Tb.cells).length:Nat)))))).pv 18 ((PV.val (Value.int .i64 ((i.1:Nat))))))) (fun i=>s.length-i.1) ⟨0,by omega,by omega⟩ ?_ (fun i=> ?_)
  · ((repeat (first|refine Sub.pv ?_ rfl|refine Sub.var ?_ rfl rfl));exact Sub.nil _ _ _ (StSub.refl _) rfl)
  obtain ⟨i,hi,hI⟩:=i
  dsimp only
  by_cases hend:s.length≤i
  · have e:W=0:=hfin0 fun j hj=>hI j (by omega)
    (try (apply wO pk;exact rfl));(repeat' (first|(show All _;constructor)|(show Imp _ _;constructor)|(show ImpX _ _ _ _;constructor)|(apply wC pk;(iterate 2 exact rfl))|(apply wE pk;(iterate 2 exact rfl))|(apply wX pk;exact rfl)|(apply wN pk;exact rfl)|(apply wD pk [] [];kernel_rfl;exact rfl;exact rfl)|(apply aB;simp only [zqt,zqf])|(refine aC rfl (fun h=> ?_) (fun h=> ?_)<;>(try simp at h)<;>try (exfalso;omega))|(refine aD ?_;refine ⟨_,_,_,rfl,Wk.refl _,StSub.refl _, ?_,rfl⟩;try first|rfl|((rw [e]);done))|(intros;(try simp only [zql]);omega)))
  have hil:i<s.length:=by omega
  have hib:i<b.length:=by omega
  have hsh:=jK hB hib
  have hfin1:=hfin1 i hil hI
  have hup:ckT exR b s[i]! (bJ bB b i)=0→∀j<i+1,ckT exR b s[j]! (bJ bB b j)=0:=fun h j hj=>by
    rcases Nat.lt_succ_iff_lt_or_eq.1 hj with q|q
    · exact hI j q
    · subst q;exact h
  rw [getElem!_pos s i hil] at hfin1 hup
  obtain ⟨n1,n2,n3,n4,n5⟩:=zH hrs hil
  have hrl:=rows_len hg hil
  have hro:=fun r (hr:r∈bJ bB b i)=>rO afJ hg hil hr
  have hto:=fun m (hm:m∈s[i].sums)=>uO hg hil hm
  have hun:=fun u (hu:u∈s[i].unique)=>avR hrs hil hu
  have hfr:=fun f (hf:f∈s[i].foreign)=>aqH hrs hil hf
  have hchk:=hB.chk _ (List.getElem_mem hil)
  generalize bJ bB b i=rows at*
  have hrn:∀r∈rows,r.length≤1000:=fun r hr=>by have:=(hro r hr).len;omega
  have f0:PF Tryz.prog 35 [.agg (kQ s[i] rows b)] (PV.val (Value.int .i64 (stT exR b s[i] rows 0))):=agG s[i] rows b (by omega) (by omega) fun r hr=>by have:=hrn r hr;omega
  have f1:PF Tryz.prog 36 [.agg (kQ s[i] rows b)] (PV.val (Value.int .i64 (stT exR b s[i] rows 1))):=adP s[i] rows b (by omega) (by omega) fun u hu=>⟨by have:=(hun u hu).c1;omega,fun r hr=>by have:=(hun u hu).c2;have:=(hro r hr).len;omega⟩
  have f2:stT exR b s[i] rows 0=0→PF Tryz.prog 37 [.agg (kQ s[i] rows b)] (PV.val (Value.int .i64 (stT exR b s[i] rows 2))):=fun h=>acV s[i] rows b (by omega) (by omega) hchk fun r hr=>avO (eV.1 h r hr) (hrn r hr)
  have f3:PF Tryz.prog 38 [.agg (kQ s[i] rows b)] (PV.val (Value.int .i64 (stT exR b s[i] rows 3))):=zJ s[i] rows b (by omega) (by omega) (fun f hf=>⟨by have:=(hfr f hf).c1;omega,fun r hr=>by have:=(hfr f hf).c2;have:=(hro r hr).len;omega⟩) hB.bs hB.hn
  have f4:PF Tryz.prog 39 [.agg (kQ s[i] rows b)] (PV.val (Value.int .i64 (stT exR b s[i] rows 4))):=aeH s[i] rows b (by omega) hto
  have hnone:=aqQ (ex:=exR) (b:=b) (t:=s[i]) (rows:=rows)
  have hat:=fun y (hy:y<5)=>awN (ex:=exR) (b:=b) (t:=s[i]) (rows:=rows) hy
  generalize ckT exR b s[i] rows=C at*
  generalize stT exR b s[i] rows=S at*
  focus ((try (apply wO pk;exact rfl));(repeat' (first|(show All _;constructor)|(show Imp _ _;constructor)|(show ImpX _ _ _ _;constructor)|(apply wC pk;(iterate 2 exact rfl))|(apply wE pk;(iterate 2 exact rfl))|(apply wX pk;exact rfl)|(apply wN pk;exact rfl)|(apply wD pk [] [];kernel_rfl;exact rfl;exact rfl)|(apply aB;simp only [zqt,zqf])|(refine aC rfl (fun h=> ?_) (fun h=> ?_)<;>(try simp at h)<;>try (exfalso;omega))|(refine aD ?_;refine ⟨_,_,_,rfl,Wk.refl _,StSub.refl _, ?_,rfl⟩;try rfl)|(apply aL;(iterate 3 exact rfl);(intro _;apply hsh<;>first|assumption|omega);rotate_left;(iterate 2 exact rfl))|(apply bC pk;(iterate 6 exact rfl);rotate_left;exact rfl;(intro hw;exact rfl);(intro hw;apply aM<;>omega);(intro _;exact rfl);exact rfl)|(intros;(try simp only [zql]);omega))))
  refine aP (X:={x:Nat//x≤5∧∀j<x,S j=0}) (fun y=>((((((((St.nil 41 st).var 3 27 ((bsC b))).var 7 78 (kQ s[i] rows b)).pv 16 (.seq (s.map Tb.cells))).pv 17 ((PV.val (Value.int .i64 (((s.map Tb.cells).length:Nat)))))).pv 18 ((PV.val (Value.int .i64 ((i:Nat)))))).pv 29 (.agg [.fn 35 [], .fn 36 [], .fn 37 [], .fn 38 [], .fn 39 []])).pv 30 ((PV.val (Value.int .i64 ((y.1:Nat))))))) (fun y=>5-y.1) ⟨0,by omega,by omega⟩ ?_ (fun y=> ?_)
  · ((repeat (first|refine Sub.pv ?_ rfl|refine Sub.var ?_ rfl rfl));exact Sub.nil _ _ _ (StSub.refl _) rfl)
  obtain ⟨y,hy,hyI⟩:=y
  dsimp only
  by_cases hend2:5≤y
  · have hw:=hup (hnone fun j hj=>hyI j (by omega))
    (try (apply wO pk;exact rfl));(repeat' (first|(show All _;constructor)|(show Imp _ _;constructor)|(show ImpX _ _ _ _;constructor)|(apply wC pk;(iterate 2 exact rfl))|(apply wE pk;(iterate 2 exact rfl))|(apply wX pk;exact rfl)|(apply wN pk;exact rfl)|(apply wD pk [] [];kernel_rfl;exact rfl;exact rfl)|(apply aB;simp only [zqt,zqf])|(refine aC rfl (fun h=> ?_) (fun h=> ?_)<;>(try simp at h)<;>try (exfalso;omega))|(refine aD ?_;refine ⟨_,_,_,rfl,Wk.refl _,StSub.refl _, ?_,rfl⟩;try rfl)|(refine ⟨⟨i+1,by omega,hw⟩, ?_,by simp only;omega⟩;((repeat (first|refine Sub.pv ?_ rfl|refine Sub.var ?_ rfl rfl));exact Sub.nil _ _ _ (StSub.refl _) rfl))|(intros;(try simp only [zql]);omega)))
  have hfin:S y≠0→W=S y:=fun h=>by
    have e:=hat y (by omega) hyI h
    rw [hfin1 (by rw [e];exact h),e]
  have hyu:S y=0→∀j<y+1,S j=0:=fun h j hj=>by
    rcases Nat.lt_succ_iff_lt_or_eq.1 hj with q|q
    · exact hyI j q
    · subst q;exact h
  have h5:y=0∨y=1∨y=2∨y=3∨y=4:=by omega
  rcases h5 with rfl|rfl|rfl|rfl|rfl
  · generalize S 0=Z at*
    (try (apply wO pk;exact rfl));(repeat' (first|(show All _;constructor)|(show Imp _ _;constructor)|(show ImpX _ _ _ _;constructor)|(apply wC pk;(iterate 2 exact rfl))|(apply wE pk;(iterate 2 exact rfl))|(apply wX pk;exact rfl)|(apply wN pk;exact rfl)|(apply wD pk [] [];kernel_rfl;exact rfl;exact rfl)|(apply aB;simp only [zqt,zqf])|(refine aC rfl (fun h=> ?_) (fun h=> ?_)<;>(try simp at h)<;>try (exfalso;omega))|(refine aD ?_;refine ⟨_,_,_,rfl,Wk.refl _,StSub.refl _, ?_,rfl⟩;try first|rfl|((rw [hfin (by assumption)]);done))|(apply aL;(iterate 3 exact rfl);(intro _;apply f0<;>first|assumption|omega);rotate_left;(iterate 2 exact rfl))|((apply ixV pk 0;(iterate 6 exact rfl);(focus repeat' constructor);exact rfl;(intro _;rfl);(intro _;decide);(intro _;rfl);exact rfl))|(refine ⟨⟨1,by omega,hyu (by assumption)⟩, ?_,by simp only;omega⟩;((repeat (first|refine Sub.pv ?_ rfl|refine Sub.var ?_ rfl rfl));exact Sub.nil _ _ _ (StSub.refl _) rfl))|(intros;(try simp only [zql]);omega)))
  · generalize S 1=Z at*
    (try (apply wO pk;exact rfl));(repeat' (first|(show All _;constructor)|(show Imp _ _;constructor)|(show ImpX _ _ _ _;constructor)|(apply wC pk;(iterate 2 exact rfl))|(apply wE pk;(iterate 2 exact rfl))|(apply wX pk;exact rfl)|(apply wN pk;exact rfl)|(apply wD pk [] [];kernel_rfl;exact rfl;exact rfl)|(apply aB;simp only [zqt,zqf])|(refine aC rfl (fun h=> ?_) (fun h=> ?_)<;>(try simp at h)<;>try (exfalso;omega))|(refine aD ?_;refine ⟨_,_,_,rfl,Wk.refl _,StSub.refl _, ?_,rfl⟩;try first|rfl|((rw [hfin (by assumption)]);done))|(apply aL;(iterate 3 exact rfl);(intro _;apply f1<;>first|assumption|omega);rotate_left;(iterate 2 exact rfl))|((apply ixV pk 1;(iterate 6 exact rfl);(focus repeat' constructor);exact rfl;(intro _;rfl);(intro _;decide);(intro _;rfl);exact rfl))|(refine ⟨⟨2,by omega,hyu (by assumption)⟩, ?_,by simp only;omega⟩;((repeat (first|refine Sub.pv ?_ rfl|refine Sub.var ?_ rfl rfl));exact Sub.nil _ _ _ (StSub.refl _) rfl))|(intros;(try simp only [zql]);omega)))
  · have f2:=f2 (hyI 0 (by omega))
    generalize S 2=Z at*
    (try (apply wO pk;exact rfl));(repeat' (first|(show All _;constructor)|(show Imp _ _;constructor)|(show ImpX _ _ _ _;constructor)|(apply wC pk;(iterate 2 exact rfl))|(apply wE pk;(iterate 2 exact rfl))|(apply wX pk;exact rfl)|(apply wN pk;exact rfl)|(apply wD pk [] [];kernel_rfl;exact rfl;exact rfl)|(apply aB;simp only [zqt,zqf])|(refine aC rfl (fun h=> ?_) (fun h=> ?_)<;>(try simp at h)<;>try (exfalso;omega))|(refine aD ?_;refine ⟨_,_,_,rfl,Wk.refl _,StSub.refl _, ?_,rfl⟩;try first|rfl|((rw [hfin (by assumption)]);done))|(apply aL;(iterate 3 exact rfl);(intro _;apply f2<;>first|assumption|omega);rotate_left;(iterate 2 exact rfl))|((apply ixV pk 2;(iterate 6 exact rfl);(focus repeat' constructor);exact rfl;(intro _;rfl);(intro _;decide);(intro _;rfl);exact rfl))|(refine ⟨⟨3,by omega,hyu (by assumption)⟩, ?_,by simp only;omega⟩;((repeat (first|refine Sub.pv ?_ rfl|refine Sub.var ?_ rfl rfl));exact Sub.nil _ _ _ (StSub.refl _) rfl))|(intros;(try simp only [zql]);omega)))
  · generalize S 3=Z at*
    (try (apply wO pk;exact rfl));(repeat' (first|(show All _;constructor)|(show Imp _ _;constructor)|(show ImpX _ _ _ _;constructor)|(apply wC pk;(iterate 2 exact rfl))|(apply wE pk;(iterate 2 exact rfl))|(apply wX pk;exact rfl)|(apply wN pk;exact rfl)|(apply wD pk [] [];kernel_rfl;exact rfl;exact rfl)|(apply aB;simp only [zqt,zqf])|(refine aC rfl (fun h=> ?_) (fun h=> ?_)<;>(try simp at h)<;>try (exfalso;omega))|(refine aD ?_;refine ⟨_,_,_,rfl,Wk.refl _,StSub.refl _, ?_,rfl⟩;try first|rfl|((rw [hfin (by assumption)]);done))|(apply aL;(iterate 3 exact rfl);(intro _;apply f3<;>first|assumption|omega);rotate_left;(iterate 2 exact rfl))|((apply ixV pk 3;(iterate 6 exact rfl);(focus repeat' constructor);exact rfl;(intro _;rfl);(intro _;decide);(intro _;rfl);exact rfl))|(refine ⟨⟨4,by omega,hyu (by assumption)⟩, ?_,by simp only;omega⟩;((repeat (first|refine Sub.pv ?_ rfl|refine Sub.var ?_ rfl rfl));exact Sub.nil _ _ _ (StSub.refl _) rfl))|(intros;(try simp only [zql]);omega)))
  · generalize S 4=Z at*
    (try (apply wO pk;exact rfl));(repeat' (first|(show All _;constructor)|(show Imp _ _;constructor)|(show ImpX _ _ _ _;constructor)|(apply wC pk;(iterate 2 exact rfl))|(apply wE pk;(iterate 2 exact rfl))|(apply wX pk;exact rfl)|(apply wN pk;exact rfl)|(apply wD pk [] [];kernel_rfl;exact rfl;exact rfl)|(apply aB;simp only [zqt,zqf])|(refine aC rfl (fun h=> ?_) (fun h=> ?_)<;>(try simp at h)<;>try (exfalso;omega))|(refine aD ?_;refine ⟨_,_,_,rfl,Wk.refl _,StSub.refl _, ?_,rfl⟩;try first|rfl|((rw [hfin (by assumption)]);done))|(apply aL;(iterate 3 exact rfl);(intro _;apply f4<;>first|assumption|omega);rotate_left;(iterate 2 exact rfl))|((apply ixV pk 4;(iterate 6 exact rfl);(focus repeat' constructor);exact rfl;(intro _;rfl);(intro _;decide);(intro _;rfl);exact rfl))|(refine ⟨⟨5,by omega,hyu (by assumption)⟩, ?_,by simp only;omega⟩;((repeat (first|refine Sub.pv ?_ rfl|refine Sub.var ?_ rfl rfl));exact Sub.nil _ _ _ (StSub.refl _) rfl))|(intros;(try simp only [zql]);omega)))
theorem pG (table sum group:Int):PF Tryz.prog 15 [.agg (scC s), .agg (bsC b),(PV.val (Value.int .i64 (table))),(PV.val (Value.int .i64 (sum))),(PV.val (Value.int .i64 (group)))] (PV.val (Value.int .i64 (totC s b table sum group))):=by
  have hm:=gO hB
  have hsl:=hB.len
  by_cases hmay:¬mayC s b=true
  · have e:totC s b table sum group=0:=by unfold totC;rw [dif_neg (fun q=>hmay q.1)]
    have hmay:mayC s b=false:=by simpa using hmay
    rw [e]
    rw [hmay] at hm
    refine aK aG Tryz.func15 (by kernel_rfl) rfl rfl rfl rfl (fun st=> ?_)
    (try (apply wO pk;exact rfl));(repeat' (first|(show All _;constructor)|(show Imp _ _;constructor)|(show ImpX _ _ _ _;constructor)|(apply wC pk;(iterate 2 exact rfl))|(apply wE pk;(iterate 2 exact rfl))|(apply wX pk;exact rfl)|(apply wN pk;exact rfl)|(apply wD pk [] [];kernel_rfl;exact rfl;exact rfl)|(apply aB;simp only [zqt,zqf])|(refine aC rfl (fun h=> ?_) (fun h=> ?_)<;>(try simp at h)<;>try (exfalso;omega))|(refine aD ?_;refine ⟨_,_,_,rfl,Wk.refl _,StSub.refl _, ?_,rfl⟩;try rfl)|(apply aL;(iterate 3 exact rfl);(intro _;apply hm<;>first|assumption|omega);rotate_left;(iterate 2 exact rfl))|((apply bC pk (j:=0) (row:=(default:Tb).cells);(iterate 6 exact rfl);rotate_left;exact rfl;(intro hw;exfalso;first|(focus (simp [gw] at hw;done))|(simp [gw] at hw;omega));(intro hw;exfalso;first|(focus (simp [gw] at hw;done))|(simp [gw] at hw;omega));(intro hw;exfalso;first|(focus (simp [gw] at hw;done))|(simp [gw] at hw;omega));exact rfl))|(intros;(try simp only [zql]);omega)|((exfalso;simp [gw] at*;done))))
  replace hmay:=Decidable.of_not_not hmay
  rw [hmay] at hm
  by_cases ht:¬(0≤table∧table<s.length)
  · have e:totC s b table sum group=0:=by unfold totC;rw [dif_neg (fun q=>ht q.2.1)]
    rw [e]
    refine aK aG Tryz.func15 (by kernel_rfl) rfl rfl rfl rfl (fun st=> ?_)
    (try (apply wO pk;exact rfl));(repeat' (first|(show All _;constructor)|(show Imp _ _;constructor)|(show ImpX _ _ _ _;constructor)|(apply wC pk;(iterate 2 exact rfl))|(apply wE pk;(iterate 2 exact rfl))|(apply wX pk;exact rfl)|(apply wN pk;exact rfl)|(apply wD pk [] [];kernel_rfl;exact rfl;exact rfl)|(apply aB;simp only [zqt,zqf])|(refine aC rfl (fun h=> ?_) (fun h=> ?_)<;>(try simp at h)<;>try (exfalso;omega))|(refine aD ?_;refine ⟨_,_,_,rfl,Wk.refl _,StSub.refl _, ?_,rfl⟩;try rfl)|(apply aL;(iterate 3 exact rfl);(intro _;apply hm<;>first|assumption|omega);rotate_left;(iterate 2 exact rfl))|((apply bC pk (j:=0) (row:=(default:Tb).cells);(iterate 6 exact rfl);rotate_left;exact rfl;(intro hw;exfalso;first|(focus (simp [gw] at hw;done))|(simp [gw] at hw;omega));(intro hw;exfalso;first|(focus (simp [gw] at hw;done))|(simp [gw] at hw;omega));(intro hw;exfalso;first|(focus (simp [gw] at hw;done))|(simp [gw] at hw;omega));exact rfl))|(intros;(try simp only [zql]);omega)|((exfalso;simp [gw] at*;omega))))
  replace ht:=Decidable.of_not_not ht
  obtain ⟨k,rfl⟩:∃k:Nat,table=(k:Int):=⟨table.toNat,by omega⟩
  have hk:k<s.length:=by omega
  have hmay2:=hmay
  unfold mayC at hmay
  rw [Bool.and_eq_true,decide_eq_true_eq] at hmay
  obtain ⟨hrc,hg⟩:=hmay
  have hrs:=iS hrc
  obtain ⟨⟨_,hbl⟩,_⟩:=cA.1 hg
  obtain ⟨n1,n2,n3,n4,n5⟩:=zH hrs hk
  by_cases hs:¬(0≤sum∧sum<s[k].sums.length)
  · have e:totC s b k sum group=0:=by
      unfold totC
      rw [dif_neg]
      rintro ⟨_,_,q⟩
      rw [Int.toNat_natCast,getElem!_pos s k hk] at q
      exact hs q
    rw [e]
    refine aK aG Tryz.func15 (by kernel_rfl) rfl rfl rfl rfl (fun st=> ?_)
    (try (apply wO pk;exact rfl));(repeat' (first|(show All _;constructor)|(show Imp _ _;constructor)|(show ImpX _ _ _ _;constructor)|(apply wC pk;(iterate 2 exact rfl))|(apply wE pk;(iterate 2 exact rfl))|(apply wX pk;exact rfl)|(apply wN pk;exact rfl)|(apply wD pk [] [];kernel_rfl;exact rfl;exact rfl)|(apply aB;simp only [zqt,zqf])|(refine aC rfl (fun h=> ?_) (fun h=> ?_)<;>(try simp at h)<;>try (exfalso;omega))|(refine aD ?_;refine ⟨_,_,_,rfl,Wk.refl _,StSub.refl _, ?_,rfl⟩;try rfl)|(apply aL;(iterate 3 exact rfl);(intro _;apply hm<;>first|assumption|omega);rotate_left;(iterate 2 exact rfl))|(apply bC pk;(iterate 6 exact rfl);rotate_left;exact rfl;(intro hw;exact rfl);(intro hw;apply aM<;>omega);(intro _;exact rfl);exact rfl)|(intros;(try simp only [zql]);omega)|((exfalso;simp [gw] at*;omega))))
  replace hs:=Decidable.of_not_not hs
  obtain ⟨y,rfl⟩:∃y:Nat,sum=(y:Int):=⟨sum.toNat,by omega⟩
  have hy:y<s[k].sums.length:=by omega
  have hT:=uO hg hk (List.getElem_mem hy)
  have e:totC s b k y group=eP s[k].sums[y] group (bJ bB b k):=by
    unfold totC
    rw [dif_pos ⟨hmay2,ht,by rw [Int.toNat_natCast,getElem!_pos s k hk];exact hs⟩]
    rw [Int.toNat_natCast,Int.toNat_natCast,getElem!_pos s k hk,getElem!_pos s[k].sums y hy]
  rw [e]
  have hsh:=jK hB (k:=k) (by omega)
  have hts:=sF s[k].sums[y] (bJ bB b k) hT
  have hget:=arW hT.ns group
  generalize eP s[k].sums[y] group (bJ bB b k)=R at*
  generalize jW s[k].sums[y] (bJ bB b k)=M at*
  generalize nY s[k].sums[y] (bJ bB b k)=G at*
  generalize bJ bB b k=rows at*
  refine aK aG Tryz.func15 (by kernel_rfl) rfl rfl rfl rfl (fun st=> ?_)
  (try (apply wO pk;exact rfl));(repeat' (first|(show All _;constructor)|(show Imp _ _;constructor)|(show ImpX _ _ _ _;constructor)|(apply wC pk;(iterate 2 exact rfl))|(apply wE pk;(iterate 2 exact rfl))|(apply wX pk;exact rfl)|(apply wN pk;exact rfl)|(apply wD pk [] [];kernel_rfl;exact rfl;exact rfl)|(apply aB;simp only [zqt,zqf])|(refine aC rfl (fun h=> ?_) (fun h=> ?_)<;>(try simp at h)<;>try (exfalso;omega))|(refine aD ?_;refine ⟨_,_,_,rfl,Wk.refl _,StSub.refl _, ?_,rfl⟩;try rfl)|(apply aL;(iterate 3 exact rfl);(intro _;(first|apply hm|apply hsh|apply hts)<;>first|assumption|omega);rotate_left;(iterate 2 exact rfl))|(apply bC pk;(iterate 6 exact rfl);rotate_left;exact rfl;(intro hw;exact rfl);(intro hw;apply aM<;>omega);(intro _;exact rfl);exact rfl)|((apply azY pk qU (f:=gL) (z:=0) (k:=group) (n:=R);(iterate 5 exact rfl);rotate_left;exact rfl;exact rfl;exact hget))|(intros;(try simp only [zql]);omega)|((exfalso;simp [gw] at*;omega))))
end
end Go.Proofs.YtcglimangneafaaGreatDoor
