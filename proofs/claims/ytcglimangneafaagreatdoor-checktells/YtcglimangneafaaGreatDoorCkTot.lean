import Derived.Test.YtcglimangneafaaGreatDoorCkAsk
import Derived.Test.YtcglimangneafaaGreatDoorCkRow
import Derived.Test.YtcglimangneafaaGreatDoorCkNum
import Derived.Test.YtcglimangneafaaGreatDoorBsMulti
set_option linter.unusedSimpArgs false
set_option linter.unusedVariables false
namespace Go.Proofs.YtcglimangneafaaGreatDoor
open Go Go.Abs
attribute [local irreducible] Ev PWp
set_option maxRecDepth 10000
set_option maxHeartbeats 4000000
structure TotOK (m:Su) (rows:List (List Vl)):Prop where
  len:rows.length≤2000
  c0:0≤m.col
  b0:0≤m.by_
  cl:∀r∈rows,m.col<r.length∧m.by_<r.length
  num:∀r∈rows,(-1099511627776≤r[m.col.toNat]!.n∧r[m.col.toNat]!.n≤1099511627776)∧(r[m.col.toNat]!.kind≠1→r[m.col.toNat]!.n=0)
theorem TotOK.ns {m:Su} {rows:List (List Vl)} (h:TotOK m rows):apU m rows:=fun r hr=>(h.num r hr).2
theorem rO {m:Su} {g:Int}:∀{rows:List (List Vl)},(∀r∈rows, -1099511627776≤r[m.col.toNat]!.n∧r[m.col.toNat]!.n≤1099511627776)→ -1099511627776*(rows.length:Int)≤dI m g rows∧dI m g rows≤1099511627776*(rows.length:Int)
  |[],_=>by simp [dI]
  |r::rows,h=>by
    have ih:=rO (m:=m) (g:=g) (rows:=rows) fun x hx=>h x (List.mem_cons_of_mem _ hx)
    have h0:=h r (List.mem_cons_self ..)
    rw [abZ]
    have: -1099511627776≤tP m g r∧tP m g r≤1099511627776:=by
      unfold tP
      split
      · exact h0
      · omega
    simp only [List.length_cons]
    omega
theorem atZ {m:Su} {rows:List (List Vl)} (h:apU m rows) (g:Int):(bT g (jZ m rows)).getD 0=dI m g rows:=by
  have:=aaW g [] h
  simp only [bT,Option.getD_none,Int.zero_add] at this
  exact this
theorem auK {m:Su} {rows:List (List Vl)} {k:Nat} (h:k<rows.length):nY m (rows.take (k+1))=(nY m (rows.take k)&&decide (rows[k][m.col.toNat]!.n≥0)):=by
  unfold nY
  rw [List.take_succ_eq_append_getElem h,List.all_append];simp
theorem sK (m:Su) (rows:List (List Vl)) (h:TotOK m rows):PF Tryz.prog 46 [.agg m.cells, .seq (rows.map roC)] (.tup [.fmap (bA Ie jS (jZ m rows)),(PV.val (Value.bool (nY m rows)))]):=by
  have hlen:=h.len
  refine aH aD Tryz.func46 (by kernel_rfl) rfl rfl rfl rfl (fun st=> ?_)
  focus ((try (apply wO pk;exact rfl));(repeat' (first|((apply mkM (enc:=Ie) (f:=jS);exact rfl;intro id hid))|(show All _;constructor)|(apply wE pk;(iterate 2 exact rfl)))))
  have hid0:st id=none:=hid
  clear hid
  refine aJ (X:={x:Nat//x≤rows.length}) (fun i=>(((((((St.nil 52 (upd st id (some (.map (bA Ie jS (jZ m (rows.take i.1))))))).var 2 63 (m.cells)).pv 6 (.mref id)).pv 7 ((PV.val (Value.bool (nY m (rows.take i.1)))))).pv 11 (.seq (rows.map roC))).pv 12 ((PV.val (Value.int .i64 ((((rows.map roC)).length:Nat)))))).pv 13 ((PV.val (Value.int .i64 ((i.1:Nat))))))) (fun i=>rows.length-i.1) ⟨0,by omega⟩ ?_ (fun i=> ?_)
  · (((repeat (first|refine Sub.pv ?_ rfl|refine Sub.var ?_ rfl rfl));(exact Sub.nil _ _ _ (StSub.refl _) rfl)))
  obtain ⟨i,hi⟩:=i
  dsimp only
  by_cases hend:rows.length≤i
  · rw [List.take_of_length_le hend]
    (try (apply wO pk;exact rfl));(repeat' (first|((apply oO 4;exact rfl;exact aC _ _ _))|((refine aB ?_;exact ⟨_,_,st,rfl,Wk.refl _,nD hid0,rfl,rfl⟩))|(show All _;constructor)|(apply wC pk;(iterate 2 exact rfl))|(refine aA rfl (fun h=> ?_) (fun h=> ?_)<;>(try simp at h)<;>try (exfalso;omega))))
  have hil:i<rows.length:=by omega
  obtain ⟨c1,c2⟩:=h.cl _ (List.getElem_mem hil)
  have hc0:=h.c0
  have hb0:=h.b0
  have n1:=(h.num _ (List.getElem_mem hil)).1
  have hns:apU m (rows.take i):=fun r hr=>h.ns r (List.mem_of_mem_take hr)
  have hg:=atZ hns rows[i][m.by_.toNat]!.n
  have hbd:=rO (m:=m) (g:=rows[i][m.by_.toNat]!.n) (rows:=rows.take i) fun r hr=>(h.num r (List.mem_of_mem_take hr)).1
  have hti:(rows.take i).length≤2000:=by rw [List.length_take];omega
  have hup:=avF m hil
  have hpu:=auK (m:=m) hil
  have hci:m.col=((m.col.toNat:Nat):Int):=by omega
  have hbi:m.by_=((m.by_.toNat:Nat):Int):=by omega
  have l1:m.col.toNat<rows[i].length:=by omega
  have l2:m.by_.toNat<rows[i].length:=by omega
  rw [hg] at hup
  have g1:=getElem!_pos rows[i] m.col.toNat l1
  have g2:=getElem!_pos rows[i] m.by_.toNat l2
  rw [g2] at hg hbd
  rw [g1,g2] at hup
  rw [g1] at hpu n1
  clear g1 g2
  generalize jZ m (rows.take i)=M at*
  generalize nY m (rows.take i)=G at*
  generalize dI m rows[i][m.by_.toNat].n (rows.take i)=T at*
  have t1: -2199023255552000≤T:=by omega
  have t2:T≤2199023255552000:=by omega
  clear hbd
  by_cases hk:rows[i][m.by_.toNat].kind=1
  · rw [if_pos hk] at hup
    (try (apply wO pk;exact rfl));(repeat' (first|(apply wD pk [15] [7];kernel_rfl;exact rfl;exact rfl)|(show All _;constructor)|(show Imp _ _;constructor)|(show ImpX _ _ _ _;constructor)|(apply wC pk;(iterate 2 exact rfl))|(apply wE pk;(iterate 2 exact rfl))|(refine aA rfl (fun h=> ?_) (fun h=> ?_)<;>(try simp at h)<;>try (exfalso;omega))|(apply aM pk;(iterate 6 exact rfl);rotate_left;exact rfl;(first|((intro hw;exact rfl);(intro hw;apply aF<;>omega);(intro _;exact rfl))|((intro hw;exact (by first|exact hci|exact hbi));(intro hw;apply aF<;>omega);(intro _;exact rfl)));exact rfl)|(apply lkD pk qW (f:=jS) (z:=0) (k:=rows[i][m.by_.toNat].n) (n:=T);(iterate 5 exact rfl);rotate_left;exact rfl;exact aC _ _ _;exact rfl;exact hg)|(apply muA pk qW (f:=jS) (k:=rows[i][m.by_.toNat].n) (v:=T+rows[i][m.col.toNat].n);(exact .inr rfl);(iterate 5 exact rfl);exact aC _ _ _;exact rfl)|(refine ⟨⟨i+1,by omega⟩, ?_,by simp only;omega⟩;((dsimp only;rw [hup,hpu]));(((repeat (first|refine Sub.pv ?_ rfl|refine Sub.var ?_ rfl rfl));(exact Sub.nil _ _ _ (iO (by first|rfl|exact gQ (by assumption)|((simp only [St.pv,St.put,St.sst,St.setv,St.nil,St.var,gP]);first|done|rfl))) rfl))))|(intros;(try simp only [zql]);omega)))
  · rw [if_neg hk] at hup
    (try (apply wO pk;exact rfl));(repeat' (first|(show All _;constructor)|(show Imp _ _;constructor)|(show ImpX _ _ _ _;constructor)|(apply wC pk;(iterate 2 exact rfl))|(apply wE pk;(iterate 2 exact rfl))|(refine aA rfl (fun h=> ?_) (fun h=> ?_)<;>(try simp at h)<;>try (exfalso;omega))|(apply aM pk;(iterate 6 exact rfl);rotate_left;exact rfl;(first|((intro hw;exact rfl);(intro hw;apply aF<;>omega);(intro _;exact rfl))|((intro hw;exact (by first|exact hci|exact hbi));(intro hw;apply aF<;>omega);(intro _;exact rfl)));exact rfl)|(refine ⟨⟨i+1,by omega⟩, ?_,by simp only;omega⟩;((dsimp only;rw [hup,hpu]));(((repeat (first|refine Sub.pv ?_ rfl|refine Sub.var ?_ rfl rfl));(exact Sub.nil _ _ _ (StSub.refl _) rfl))))|(intros;(try simp only [zql]);omega)))
theorem xG {α β:Type} (f:α→β):∀(l:List α) (i:Nat),(l.map f).eraseIdx i=(l.eraseIdx i).map f
  |[],_=>rfl
  |_::_,0=>rfl
  |a::l,i+1=>by simp only [List.map_cons,List.eraseIdx_cons_succ,xG f l i]
theorem alZ (es:List (Int×Int)) (i:Nat):(bA Ie jS es).eraseIdx i=bA Ie jS (es.eraseIdx i):=by unfold bA;rw [xG]
theorem awS {es:List (Int×Int)} {i:Nat} {e:Value×PV} (h:(bA Ie jS es)[i]?=some e):∃x,es[i]?=some x∧e=(Ie x.1,jS x.2):=by
  unfold bA at h
  rw [List.getElem?_map] at h
  cases hx:es[i]? with
  |none=>rw [hx] at h;cases h
  |some x=>rw [hx] at h;exact ⟨x,rfl,(Option.some.inj h).symm⟩
theorem akE {es:List (Int×Int)} (h:bA Ie jS es=[]):es=[]:=by cases es with
  |nil=>rfl
  |cons x l=>cases h
theorem yU {α:Type} {p:α→Bool}:∀{l:List α} {i:Nat} {x:α},l[i]?=some x→l.all p=(p x&&(l.eraseIdx i).all p)
  |[],_,_,h=>by simp at h
  |a::l,0,x,h=>by simp at h;subst h;rfl
  |a::l,i+1,x,h=>by
    simp only [List.getElem?_cons_succ] at h
    rw [List.eraseIdx_cons_succ,List.all_cons,List.all_cons,yU h]
    cases p a<;>cases p x<;>simp
theorem awK (x:Int) (g:G):Rep g (PV.val (Value.int .i64 (x))) (Ie x):=by unfold Rep;rfl
theorem agC (t:Tb) (rows:List (List Vl)) (b:Bs) (hx:t.sums.length<1000000000000000) (hT:∀m∈t.sums,TotOK m rows):PF Tryz.prog 39 [.agg (kP t rows b)] (PV.val (Value.int .i64 (if lA t rows=false then 11 else 0))):=by
  have hyes:(∀j (h:j<t.sums.length),(nY t.sums[j] rows&&(jZ t.sums[j] rows).all fun e=>decide (e.2≤t.sums[j].max))=true)→lA t rows=true:=fun h=>by
    unfold lA
    rw [List.all_eq_true]
    intro m hm
    obtain ⟨j,hj,rfl⟩:=List.getElem_of_mem hm
    rw [←alE (hT _ hm).ns];exact h j hj
  have hno:∀j (h:j<t.sums.length),(nY t.sums[j] rows&&(jZ t.sums[j] rows).all fun e=>decide (e.2≤t.sums[j].max))=false→lA t rows=false:=fun j hj h=>by
    unfold lA
    rw [←Bool.not_eq_true,List.all_eq_true]
    intro q
    have:=q _ (List.getElem_mem hj)
    rw [←alE (hT _ (List.getElem_mem hj)).ns,h] at this;cases this
  generalize lA t rows=B at*
  refine aH aD Tryz.func39 (by kernel_rfl) rfl rfl rfl rfl (fun st=> ?_)
  focus ((try (apply wO pk;exact rfl));(repeat' ((show All _;constructor))))
  refine aJ (X:={x:Nat//x≤t.sums.length∧∀j (h:j<t.sums.length),j<x→(nY t.sums[j] rows&&(jZ t.sums[j] rows).all fun e=>decide (e.2≤t.sums[j].max))=true}) (fun i=>(((((St.nil 40 st).var 1 78 ((kP t rows b))).pv 11 (.seq (t.sums.map Su.cells))).pv 12 ((PV.val (Value.int .i64 (((t.sums.map Su.cells).length:Nat)))))).pv 13 ((PV.val (Value.int .i64 ((i.1:Nat))))))) (fun i=>t.sums.length-i.1) ⟨0,by omega,by omega⟩ ?_ (fun i=> ?_)
  · ((repeat (first|refine Sub.pv ?_ rfl|refine Sub.var ?_ rfl rfl));exact Sub.nil _ _ _ (StSub.refl _) rfl)
  obtain ⟨i,hi,hI⟩:=i
  dsimp only
  by_cases hend:t.sums.length≤i
  · have e:B=true:=hyes fun j hj=>hI j hj (by omega)
    (try (apply wO pk;exact rfl));(repeat' (first|(show All _;constructor)|(apply wC pk;(iterate 2 exact rfl))|(refine aA rfl (fun h=> ?_) (fun h=> ?_)<;>(try simp at h)<;>try (exfalso;omega))|(refine aB ?_;refine ⟨_,_,_,rfl,Wk.refl _,StSub.refl _, ?_,rfl⟩;try first|rfl|((rw [e];rfl);done))))
  have hil:i<t.sums.length:=by omega
  have hts:=sK t.sums[i] rows (hT _ (List.getElem_mem hil))
  have hno:=hno i hil
  have hup:(nY t.sums[i] rows&&(jZ t.sums[i] rows).all fun e=>decide (e.2≤t.sums[i].max))=true→∀j (h:j<t.sums.length),j<i+1→(nY t.sums[j] rows&&(jZ t.sums[j] rows).all fun e=>decide (e.2≤t.sums[j].max))=true:=fun h j hj hji=>by
    rcases Nat.lt_succ_iff_lt_or_eq.1 hji with q|q
    · exact hI j hj q
    · subst q;exact h
  generalize jZ t.sums[i] rows=M at*
  generalize nY t.sums[i] rows=G at*
  focus ((try (apply wO pk;exact rfl));(repeat' (first|((apply azE pk;(iterate 5 exact rfl);intro it hit))|(show All _;constructor)|(show Imp _ _;constructor)|(apply wC pk;(iterate 2 exact rfl))|(apply wE pk;(iterate 2 exact rfl))|(refine aA rfl (fun h=> ?_) (fun h=> ?_)<;>(try simp at h)<;>try (exfalso;omega))|(apply aI;(iterate 3 exact rfl);(intro _;apply hts<;>first|assumption|omega);rotate_left;(iterate 2 exact rfl))|(apply aM pk;(iterate 6 exact rfl);rotate_left;exact rfl;(intro hw;exact rfl);(intro hw;apply aF<;>omega);(intro _;exact rfl);exact rfl))))
  have hit0:st it=none:=hit
  clear hit
  refine aJ (X:={x:List (Int×Int)×Bool×Option (Value×PV)//(G&&M.all fun e=>decide (e.2≤t.sums[i].max))=(x.2.1&&x.1.all fun e=>decide (e.2≤t.sums[i].max))}) (fun y=>((((((((St.nil 40 (upd st it (some (.iter y.1.2.2 (bA Ie jS y.1.1))))).var 1 78 ((kP t rows b))).var 4 63 (t.sums[i].cells)).pv 6 ((PV.val (Value.bool (y.1.2.1))))).pv 11 (.seq (t.sums.map Su.cells))).pv 12 ((PV.val (Value.int .i64 (((t.sums.map Su.cells).length:Nat)))))).pv 13 ((PV.val (Value.int .i64 ((i:Nat)))))).pv 25 (.ref it 0))) (fun y=>y.1.1.length) ⟨(M,G,none),rfl⟩ ?_ (fun y=> ?_)
  · (((repeat (first|refine Sub.pv ?_ rfl|refine Sub.var ?_ rfl rfl));(exact Sub.nil _ _ _ (StSub.refl _) rfl)))
  obtain ⟨⟨rest,g,cur⟩,hI2⟩:=y
  dsimp only at hI2
  dsimp only
  have hdone:bA Ie jS rest=[]→g=true→∀j (h:j<t.sums.length),j<i+1→(nY t.sums[j] rows&&(jZ t.sums[j] rows).all fun e=>decide (e.2≤t.sums[j].max))=true:=fun h1 h2=>hup (by
    obtain rfl:=akE h1
    rw [hI2,h2];rfl)
  have hfail:bA Ie jS rest=[]→g=false→B=false:=fun h1 h2=>hno (by
    obtain rfl:=akE h1
    rw [hI2,h2];rfl)
  have hltg:∀{j:Nat} {x:Int×Int},rest[j]?=some x→(rest.eraseIdx j).length<rest.length:=fun {j x} hx=>by
    have:=(List.getElem?_eq_some_iff.1 hx).1
    rw [List.length_eraseIdx_of_lt this];omega
  have hn2:∀{j:Nat} {x:Int×Int},rest[j]?=some x→(G&&M.all fun e=>decide (e.2≤t.sums[i].max))=((g&&decide (x.2≤t.sums[i].max))&&(rest.eraseIdx j).all fun e=>decide (e.2≤t.sums[i].max)):=fun {j x} hx=>by
    rw [hI2,yU hx,Bool.and_assoc]
  clear hup hno hI2
  (try (apply wO pk;exact rfl));(repeat' (first|((refine aB ?_;exact ⟨_,_,st,rfl,Wk.refl _,(by first|exact lH hit0|exact nD hit0),(by rw [hfail (by assumption) (by assumption)];rfl),rfl⟩))|(show All _;constructor)|(show Imp _ _;constructor)|(show ImpX _ _ _ _;constructor)|(apply wC pk;(iterate 2 exact rfl))|(apply wE pk;(iterate 2 exact rfl))|(refine aA rfl (fun h=> ?_) (fun h=> ?_)<;>(try simp at h)<;>try (exfalso;omega))|((apply aAr;exact rfl;exact aC _ _ _;(iterate 3 exact rfl);intro hleft;rotate_left;intro j e he;obtain ⟨x,hx,rfl⟩:=awS he;rw [alZ];have hlt:=hltg hx;rotate_left))|((apply ayT;exact rfl;exact rfl;exact aC _ _ _;exact awK x.1;rotate_left;exact rfl;exact rfl))|(refine ⟨⟨i+1,by omega,hdone (by assumption) (by assumption)⟩, ?_,by simp only;omega⟩;(((repeat (first|refine Sub.pv ?_ rfl|refine Sub.var ?_ rfl rfl));(exact Sub.nil _ _ _ (by first|exact nD hit0|exact lH hit0) rfl))))|(refine ⟨⟨(rest.eraseIdx j,g&&decide (x.2≤t.sums[i].max),some (Ie x.1,jS x.2)),hn2 hx⟩, ?_,by simp only;omega⟩;((dsimp only));(((repeat (first|refine Sub.pv ?_ rfl|refine Sub.var ?_ rfl rfl));(exact Sub.nil _ _ _ (iO (by first|rfl|exact gQ (by assumption)|((simp only [St.pv,St.put,St.sst,St.setv,St.nil,St.var,gP]);first|done|rfl))) rfl))))|(intros;(try simp only [zql]);omega)))
end Go.Proofs.YtcglimangneafaaGreatDoor
namespace Go.Proofs.YtcglimangneafaaGreatDoor
open Go Go.Abs
attribute [local irreducible] Ev PWp
set_option maxRecDepth 10000
set_option maxHeartbeats 4000000
section
variable {tx:Cl→Int}
theorem avK :∀c:Cl,c.kind=0→aZ c=c.val:=fun c h=>by unfold aZ;rw [if_pos h]
theorem rows_len {s:Sc} {b:Bs} (hg:eG tx s b=true) {k:Nat} (hk:k<s.length):(bQ aZ b k).length≤2000:=by
  obtain ⟨⟨h1,h2⟩,h3⟩:=gA.1 hg
  have hkb:k<b.length:=by omega
  have:=(yE.1 (h3 k hkb)).1
  unfold bQ
  rw [uK hkb,zql]
  rw [getElem!_pos b k hkb] at this
  exact this
theorem pV {s:Sc} {b:Bs} (hg:eG tx s b=true) {k:Nat} (hk:k<s.length) {m:Su} (hm:m∈s[k].sums):TotOK m (bQ aZ b k):=by
  obtain ⟨⟨h1,h2⟩,_⟩:=gA.1 hg
  have hs:=azQ h1 hk hm
  refine ⟨rows_len hg hk,by have:=hs.c1;omega,by have:=hs.b1;omega,fun r hr=> ?_,fun r hr=> ?_⟩
  · have:=(abH avK hg hk hr).len
    have:=hs.c2
    have:=hs.b2
    omega
  · have hc:=hs.c1
    have hc2:=hs.c2
    exact atW ((abH avK hg hk hr).num m.col.toNat (by omega) hs.kc)
theorem aaL {s:Sc} (h:cD s=0) {k:Nat} (hk:k<s.length):s[k].cols.length≤16∧s[k].checks.length≤16∧s[k].unique.length≤16∧s[k].foreign.length≤16∧s[k].sums.length≤16:=by
  have h1:=iZ h hk (lk1 s[k]!) (by simp [lks])
  rw [getElem!_pos s k hk] at h1
  unfold lk1 at h1
  split at h1
  · cases h1
  · omega
theorem axG {t:Tb} {r:List Vl} (h:dE t r=0) (hl:r.length≤1000):X.rowOK r:=by
  refine ⟨by omega,fun v hv=> ?_⟩
  obtain ⟨j,hj,rfl⟩:=List.getElem_of_mem hv
  unfold dE at h
  split at h
  · have:=iM.1 h j (List.mem_range.2 hj)
    rw [getElem!_pos r j hj] at this
    unfold lW at this
    split at this
    · cases this
    · rename_i q
      have q:eD r[j]=true:=by simpa using q
      have:=(atW q).1
      unfold X.lim
      omega
  · cases h
end
section
variable (ex:Tb→List Vl→Int) (b:Bs) (t:Tb) (rows:List (List Vl))
def stT :Nat→Int
  |0=>cC (dE t) rows
  |1=>if fW t rows=false then 8 else 0
  |2=>cC (ex t) rows
  |3=>if kJ b t rows=false then 10 else 0
  |_=>if lA t rows=false then 11 else 0
variable {ex b t rows}
theorem asM (h:∀j<5,stT ex b t rows j=0):ckT ex b t rows=0:=by
  have h0:cC (dE t) rows=0:=h 0 (by omega)
  have h1:(if fW t rows=false then (8:Int) else 0)=0:=h 1 (by omega)
  have h2:cC (ex t) rows=0:=h 2 (by omega)
  have h3:(if kJ b t rows=false then (10:Int) else 0)=0:=h 3 (by omega)
  have h4:(if lA t rows=false then (11:Int) else 0)=0:=h 4 (by omega)
  unfold ckT
  rw [if_neg (fun q=>q h0),if_neg (fun q=>by rw [if_pos q] at h1;cases h1),if_neg (fun q=>q h2),if_neg (fun q=>by rw [if_pos q] at h3;cases h3),if_neg (fun q=>by rw [if_pos q] at h4;cases h4)]
theorem ayD {y:Nat} (hy:y<5) (hI:∀j<y,stT ex b t rows j=0) (h:stT ex b t rows y≠0):ckT ex b t rows=stT ex b t rows y:=by
  unfold ckT
  match y,hy with
  |0,_=>rw [if_pos (show cC (dE t) rows≠0 from h)];rfl
  |1,_=>
    have h0:cC (dE t) rows=0:=hI 0 (by omega)
    have q:fW t rows=false:=by
      cases e:fW t rows with
      |false=>rfl
      |true=>exact absurd (show stT ex b t rows 1=0 from by unfold stT;rw [e];rfl) h
    rw [if_neg (fun q=>q h0),if_pos q]
    exact (show stT ex b t rows 1=8 from if_pos q).symm
  |2,_=>
    have h0:cC (dE t) rows=0:=hI 0 (by omega)
    have h1:(if fW t rows=false then (8:Int) else 0)=0:=hI 1 (by omega)
    rw [if_neg (fun q=>q h0),if_neg (fun q=>by rw [if_pos q] at h1;cases h1),if_pos (show cC (ex t) rows≠0 from h)];rfl
  |3,_=>
    have h0:cC (dE t) rows=0:=hI 0 (by omega)
    have h1:(if fW t rows=false then (8:Int) else 0)=0:=hI 1 (by omega)
    have h2:cC (ex t) rows=0:=hI 2 (by omega)
    have q:kJ b t rows=false:=by
      cases e:kJ b t rows with
      |false=>rfl
      |true=>exact absurd (show stT ex b t rows 3=0 from by unfold stT;rw [e];rfl) h
    rw [if_neg (fun q=>q h0),if_neg (fun q=>by rw [if_pos q] at h1;cases h1),if_neg (fun q=>q h2),if_pos q]
    exact (show stT ex b t rows 3=10 from if_pos q).symm
  |4,_=>
    have h0:cC (dE t) rows=0:=hI 0 (by omega)
    have h1:(if fW t rows=false then (8:Int) else 0)=0:=hI 1 (by omega)
    have h2:cC (ex t) rows=0:=hI 2 (by omega)
    have h3:(if kJ b t rows=false then (10:Int) else 0)=0:=hI 3 (by omega)
    have q:lA t rows=false:=by
      cases e:lA t rows with
      |false=>rfl
      |true=>exact absurd (show stT ex b t rows 4=0 from by unfold stT;rw [e];rfl) h
    rw [if_neg (fun q=>q h0),if_neg (fun q=>by rw [if_pos q] at h1;cases h1),if_neg (fun q=>q h2),if_neg (fun q=>by rw [if_pos q] at h3;cases h3),if_pos q]
    exact (show stT ex b t rows 4=11 from if_pos q).symm
end
structure CkB (n:Nat) (s:Sc) (b:Bs):Prop where
  sb:ScB s
  len:s.length≤20
  col:∀t∈s,t.cols.length<10000000000
  chk:∀t∈s,mB t
  bs:BsS n b
  hn:n≤1000
noncomputable def mayC (s:Sc) (b:Bs):Bool:=decide (rightC s=0)&&eG T.rightP s b
noncomputable def whyC (s:Sc) (b:Bs):Int:=if mayC s b=true then ckW aZ exR s b else 1
noncomputable def totC (s:Sc) (b:Bs) (table sum group:Int):Int:=
  open Classical in if _h:mayC s b=true∧(0≤table∧table<s.length)∧(0≤sum∧sum<s[table.toNat]!.sums.length) then dI s[table.toNat]!.sums[sum.toNat]! group (bQ aZ b table) else 0
theorem pU {s:Sc} (h:rightC s=0):cD s=0:=by
  unfold rightC at h
  split at h
  · assumption
  · rename_i q;exact absurd h q
section
variable {n:Nat} {s:Sc} {b:Bs} (hB:CkB n s b)
include hB
theorem CkB.right :PF Tryz.prog 11 [.agg (scC s)] (PV.val (Value.int .i64 (rightC s))):=aeA s (by have:=hB.len;omega) hB.sb hB.chk hB.col
theorem gW :PF Tryz.prog 34 [.agg (scC s), .agg (bsC b)] (PV.val (Value.bool (mayC s b))):=by
  have h1:=hB.right
  have h2:=afC hB.bs hB.hn hB.sb hB.len
  unfold mayC
  generalize rightC s=R at*
  generalize eG T.rightP s b=B at*
  refine aH aD Tryz.func34 (by kernel_rfl) rfl rfl rfl rfl (fun st=> ?_)
  (try (apply wO pk;exact rfl));(repeat' (first|(show All _;constructor)|(show Imp _ _;constructor)|(show ImpX _ _ _ _;constructor)|(apply wE pk;(iterate 2 exact rfl))|(refine aB ?_;refine ⟨_,_,_,rfl,Wk.refl _,StSub.refl _, ?_,rfl⟩;try rfl)|(apply aI;(iterate 3 exact rfl);(intro _;(first|apply h1|apply h2)<;>first|assumption|omega);rotate_left;(iterate 2 exact rfl))))
theorem sS {k:Nat} (hk:k<b.length):PF Tryz.prog 17 [.agg (bsC b),(PV.val (Value.int .i64 ((k:Nat))))] (.seq ((bQ aZ b k).map roC)):=by
  obtain ⟨hL1,hL2⟩:=hB.bs.2 _ (List.getElem_mem hk)
  have hn:=hB.hn
  have e:bQ aZ b k=b[k].lines.map (xT aZ):=by unfold bQ;rw [uK hk];rfl
  rw [e]
  exact ahC aZ b k hk (by omega) fun l hl=>by
    obtain ⟨u1,u2,u3⟩:=hL2 l hl
    exact ⟨by omega,fun c hc=>awA c (u3 c hc)⟩
theorem adU :PF Tryz.prog 13 [.agg (scC s), .agg (bsC b)] (PV.val (Value.int .i64 (whyC s b))):=by
  have hm:=gW hB
  have hsl:=hB.len
  cases hmay:mayC s b with
  |false=>
    rw [hmay] at hm
    have e:whyC s b=1:=by unfold whyC;rw [hmay];rfl
    rw [e]
    refine aH aD Tryz.func13 (by kernel_rfl) rfl rfl rfl rfl (fun st=> ?_)
    (try (apply wO pk;exact rfl));(repeat' (first|(show All _;constructor)|(show Imp _ _;constructor)|(apply wC pk;(iterate 2 exact rfl))|(apply wE pk;(iterate 2 exact rfl))|(refine aA rfl (fun h=> ?_) (fun h=> ?_)<;>(try simp at h)<;>try (exfalso;omega))|(refine aB ?_;refine ⟨_,_,_,rfl,Wk.refl _,StSub.refl _, ?_,rfl⟩;try rfl)|(apply aI;(iterate 3 exact rfl);(intro _;apply hm<;>first|assumption|omega);rotate_left;(iterate 2 exact rfl))))
  |true=>
  rw [hmay] at hm
  have e:whyC s b=ckW aZ exR s b:=by unfold whyC;rw [hmay];rfl
  rw [e]
  clear e
  unfold mayC at hmay
  rw [Bool.and_eq_true,decide_eq_true_eq] at hmay
  obtain ⟨hrc,hg⟩:=hmay
  have hrs:=pU hrc
  obtain ⟨⟨_,hbl⟩,_⟩:=gA.1 hg
  have hfin0:(∀j<s.length,ckT exR b s[j]! (bQ aZ b j)=0)→ckW aZ exR s b=0:=fun h=>nE h
  have hfin1:∀i<s.length,(∀j<i,ckT exR b s[j]! (bQ aZ b j)=0)→ckT exR b s[i]! (bQ aZ b i)≠0→ckW aZ exR s b=ckT exR b s[i]! (bQ aZ b i):=fun i hi h1 h2=>uJ (f:=fun k:Nat=>ckT exR b s[k]! (bQ aZ b k)) hi h1 h2
  generalize ckW aZ exR s b=W at*
  refine aH aD Tryz.func13 (by kernel_rfl) rfl rfl rfl rfl (fun st=> ?_)
  focus ((try (apply wO pk;exact rfl));(repeat' (first|(show All _;constructor)|(show Imp _ _;constructor)|(apply wC pk;(iterate 2 exact rfl))|(apply wE pk;(iterate 2 exact rfl))|(refine aA rfl (fun h=> ?_) (fun h=> ?_)<;>(try simp at h)<;>try (exfalso;omega))|(apply aI;(iterate 3 exact rfl);(intro _;apply hm<;>first|assumption|omega);rotate_left;(iterate 2 exact rfl)))))
  refine aJ (X:={x:Nat//x≤s.length∧∀j<x,ckT exR b s[j]! (bQ aZ b j)=0}) (fun i=>(((((St.nil 41 st).var 3 27 ((bsC b))).pv 16 (.seq (s.map Tb.cells))).pv 17 ((PV.val (Value.int .i64 (((s.map Tb.cells).length:Nat)))))).pv 18 ((PV.val (Value.int .i64 ((i.1:Nat))))))) (fun i=>s.length-i.1) ⟨0,by omega,by omega⟩ ?_ (fun i=> ?_)
  · ((repeat (first|refine Sub.pv ?_ rfl|refine Sub.var ?_ rfl rfl));exact Sub.nil _ _ _ (StSub.refl _) rfl)
  obtain ⟨i,hi,hI⟩:=i
  dsimp only
  by_cases hend:s.length≤i
  · have e:W=0:=hfin0 fun j hj=>hI j (by omega)
    (try (apply wO pk;exact rfl));(repeat' (first|(show All _;constructor)|(apply wC pk;(iterate 2 exact rfl))|(refine aA rfl (fun h=> ?_) (fun h=> ?_)<;>(try simp at h)<;>try (exfalso;omega))|(refine aB ?_;refine ⟨_,_,_,rfl,Wk.refl _,StSub.refl _, ?_,rfl⟩;try first|rfl|((rw [e]);done))))
  have hil:i<s.length:=by omega
  have hib:i<b.length:=by omega
  have hsh:=sS hB hib
  have hfin1:=hfin1 i hil hI
  have hup:ckT exR b s[i]! (bQ aZ b i)=0→∀j<i+1,ckT exR b s[j]! (bQ aZ b j)=0:=fun h j hj=>by
    rcases Nat.lt_succ_iff_lt_or_eq.1 hj with q|q
    · exact hI j q
    · subst q;exact h
  rw [getElem!_pos s i hil] at hfin1 hup
  obtain ⟨n1,n2,n3,n4,n5⟩:=aaL hrs hil
  have hrl:=rows_len hg hil
  have hro:=fun r (hr:r∈bQ aZ b i)=>abH avK hg hil hr
  have hto:=fun m (hm:m∈s[i].sums)=>pV hg hil hm
  have hun:=fun u (hu:u∈s[i].unique)=>axJ hrs hil hu
  have hfr:=fun f (hf:f∈s[i].foreign)=>axQ hrs hil hf
  have hchk:=hB.chk _ (List.getElem_mem hil)
  generalize bQ aZ b i=rows at*
  have hrn:∀r∈rows,r.length≤1000:=fun r hr=>by have:=(hro r hr).len;omega
  have f0:PF Tryz.prog 35 [.agg (kP s[i] rows b)] (PV.val (Value.int .i64 (stT exR b s[i] rows 0))):=aiB s[i] rows b (by omega) (by omega) fun r hr=>by have:=hrn r hr;omega
  have f1:PF Tryz.prog 36 [.agg (kP s[i] rows b)] (PV.val (Value.int .i64 (stT exR b s[i] rows 1))):=afK s[i] rows b (by omega) (by omega) fun u hu=>⟨by have:=(hun u hu).c1;omega,fun r hr=>by have:=(hun u hu).c2;have:=(hro r hr).len;omega⟩
  have f2:stT exR b s[i] rows 0=0→PF Tryz.prog 37 [.agg (kP s[i] rows b)] (PV.val (Value.int .i64 (stT exR b s[i] rows 2))):=fun h=>aeR s[i] rows b (by omega) (by omega) hchk fun r hr=>axG (iM.1 h r hr) (hrn r hr)
  have f3:PF Tryz.prog 38 [.agg (kP s[i] rows b)] (PV.val (Value.int .i64 (stT exR b s[i] rows 3))):=aaP s[i] rows b (by omega) (by omega) (fun f hf=>⟨by have:=(hfr f hf).c1;omega,fun r hr=>by have:=(hfr f hf).c2;have:=(hro r hr).len;omega⟩) hB.bs hB.hn
  have f4:PF Tryz.prog 39 [.agg (kP s[i] rows b)] (PV.val (Value.int .i64 (stT exR b s[i] rows 4))):=agC s[i] rows b (by omega) hto
  have hnone:=asM (ex:=exR) (b:=b) (t:=s[i]) (rows:=rows)
  have hat:=fun y (hy:y<5)=>ayD (ex:=exR) (b:=b) (t:=s[i]) (rows:=rows) hy
  generalize ckT exR b s[i] rows=C at*
  generalize stT exR b s[i] rows=S at*
  focus ((try (apply wO pk;exact rfl));(repeat' (first|(show All _;constructor)|(show Imp _ _;constructor)|(apply wC pk;(iterate 2 exact rfl))|(apply wE pk;(iterate 2 exact rfl))|(apply wD pk [] [];kernel_rfl;exact rfl;exact rfl)|(refine aA rfl (fun h=> ?_) (fun h=> ?_)<;>(try simp at h)<;>try (exfalso;omega))|(apply aI;(iterate 3 exact rfl);(intro _;apply hsh<;>first|assumption|omega);rotate_left;(iterate 2 exact rfl))|(apply aM pk;(iterate 6 exact rfl);rotate_left;exact rfl;(intro hw;exact rfl);(intro hw;apply aF<;>omega);(intro _;exact rfl);exact rfl)|(intros;(try simp only [zql]);omega))))
  refine aJ (X:={x:Nat//x≤5∧∀j<x,S j=0}) (fun y=>((((((((St.nil 41 st).var 3 27 ((bsC b))).var 7 78 (kP s[i] rows b)).pv 16 (.seq (s.map Tb.cells))).pv 17 ((PV.val (Value.int .i64 (((s.map Tb.cells).length:Nat)))))).pv 18 ((PV.val (Value.int .i64 ((i:Nat)))))).pv 29 (.agg [.fn 35 [], .fn 36 [], .fn 37 [], .fn 38 [], .fn 39 []])).pv 30 ((PV.val (Value.int .i64 ((y.1:Nat))))))) (fun y=>5-y.1) ⟨0,by omega,by omega⟩ ?_ (fun y=> ?_)
  · ((repeat (first|refine Sub.pv ?_ rfl|refine Sub.var ?_ rfl rfl));exact Sub.nil _ _ _ (StSub.refl _) rfl)
  obtain ⟨y,hy,hyI⟩:=y
  dsimp only
  by_cases hend2:5≤y
  · have hw:=hup (hnone fun j hj=>hyI j (by omega))
    (try (apply wO pk;exact rfl));(repeat' (first|(show All _;constructor)|(apply wC pk;(iterate 2 exact rfl))|(refine aA rfl (fun h=> ?_) (fun h=> ?_)<;>(try simp at h)<;>try (exfalso;omega))|(refine ⟨⟨i+1,by omega,hw⟩, ?_,by simp only;omega⟩;((repeat (first|refine Sub.pv ?_ rfl|refine Sub.var ?_ rfl rfl));exact Sub.nil _ _ _ (StSub.refl _) rfl))|(intros;(try simp only [zql]);omega)))
  have hfin:S y≠0→W=S y:=fun h=>by
    have e:=hat y (by omega) hyI h
    rw [hfin1 (by rw [e];exact h),e]
  have hyu:S y=0→∀j<y+1,S j=0:=fun h j hj=>by
    rcases Nat.lt_succ_iff_lt_or_eq.1 hj with q|q
    · exact hyI j q
    · subst q;exact h
  have h5:y=0∨y=1∨y=2∨y=3∨y=4:=by omega
  rcases h5 with rfl|rfl|rfl|rfl|rfl
  · generalize S 0=Z at*
    (try (apply wO pk;exact rfl));(repeat' (first|(show All _;constructor)|(show Imp _ _;constructor)|(apply wC pk;(iterate 2 exact rfl))|(apply wE pk;(iterate 2 exact rfl))|(refine aA rfl (fun h=> ?_) (fun h=> ?_)<;>(try simp at h)<;>try (exfalso;omega))|(refine aB ?_;refine ⟨_,_,_,rfl,Wk.refl _,StSub.refl _, ?_,rfl⟩;try first|rfl|((rw [hfin (by assumption)]);done))|(apply aI;(iterate 3 exact rfl);(intro _;apply f0<;>first|assumption|omega);rotate_left;(iterate 2 exact rfl))|((apply ixV pk 0;(iterate 6 exact rfl);(focus repeat' constructor);exact rfl;(intro _;rfl);(intro _;decide);(intro _;rfl);exact rfl))|(refine ⟨⟨1,by omega,hyu (by assumption)⟩, ?_,by simp only;omega⟩;((repeat (first|refine Sub.pv ?_ rfl|refine Sub.var ?_ rfl rfl));exact Sub.nil _ _ _ (StSub.refl _) rfl))|(intros;(try simp only [zql]);omega)))
  · generalize S 1=Z at*
    (try (apply wO pk;exact rfl));(repeat' (first|(show All _;constructor)|(show Imp _ _;constructor)|(apply wC pk;(iterate 2 exact rfl))|(apply wE pk;(iterate 2 exact rfl))|(refine aA rfl (fun h=> ?_) (fun h=> ?_)<;>(try simp at h)<;>try (exfalso;omega))|(refine aB ?_;refine ⟨_,_,_,rfl,Wk.refl _,StSub.refl _, ?_,rfl⟩;try first|rfl|((rw [hfin (by assumption)]);done))|(apply aI;(iterate 3 exact rfl);(intro _;apply f1<;>first|assumption|omega);rotate_left;(iterate 2 exact rfl))|((apply ixV pk 1;(iterate 6 exact rfl);(focus repeat' constructor);exact rfl;(intro _;rfl);(intro _;decide);(intro _;rfl);exact rfl))|(refine ⟨⟨2,by omega,hyu (by assumption)⟩, ?_,by simp only;omega⟩;((repeat (first|refine Sub.pv ?_ rfl|refine Sub.var ?_ rfl rfl));exact Sub.nil _ _ _ (StSub.refl _) rfl))|(intros;(try simp only [zql]);omega)))
  · have f2:=f2 (hyI 0 (by omega))
    generalize S 2=Z at*
    (try (apply wO pk;exact rfl));(repeat' (first|(show All _;constructor)|(show Imp _ _;constructor)|(apply wC pk;(iterate 2 exact rfl))|(apply wE pk;(iterate 2 exact rfl))|(refine aA rfl (fun h=> ?_) (fun h=> ?_)<;>(try simp at h)<;>try (exfalso;omega))|(refine aB ?_;refine ⟨_,_,_,rfl,Wk.refl _,StSub.refl _, ?_,rfl⟩;try first|rfl|((rw [hfin (by assumption)]);done))|(apply aI;(iterate 3 exact rfl);(intro _;apply f2<;>first|assumption|omega);rotate_left;(iterate 2 exact rfl))|((apply ixV pk 2;(iterate 6 exact rfl);(focus repeat' constructor);exact rfl;(intro _;rfl);(intro _;decide);(intro _;rfl);exact rfl))|(refine ⟨⟨3,by omega,hyu (by assumption)⟩, ?_,by simp only;omega⟩;((repeat (first|refine Sub.pv ?_ rfl|refine Sub.var ?_ rfl rfl));exact Sub.nil _ _ _ (StSub.refl _) rfl))|(intros;(try simp only [zql]);omega)))
  · generalize S 3=Z at*
    (try (apply wO pk;exact rfl));(repeat' (first|(show All _;constructor)|(show Imp _ _;constructor)|(apply wC pk;(iterate 2 exact rfl))|(apply wE pk;(iterate 2 exact rfl))|(refine aA rfl (fun h=> ?_) (fun h=> ?_)<;>(try simp at h)<;>try (exfalso;omega))|(refine aB ?_;refine ⟨_,_,_,rfl,Wk.refl _,StSub.refl _, ?_,rfl⟩;try first|rfl|((rw [hfin (by assumption)]);done))|(apply aI;(iterate 3 exact rfl);(intro _;apply f3<;>first|assumption|omega);rotate_left;(iterate 2 exact rfl))|((apply ixV pk 3;(iterate 6 exact rfl);(focus repeat' constructor);exact rfl;(intro _;rfl);(intro _;decide);(intro _;rfl);exact rfl))|(refine ⟨⟨4,by omega,hyu (by assumption)⟩, ?_,by simp only;omega⟩;((repeat (first|refine Sub.pv ?_ rfl|refine Sub.var ?_ rfl rfl));exact Sub.nil _ _ _ (StSub.refl _) rfl))|(intros;(try simp only [zql]);omega)))
  · generalize S 4=Z at*
    (try (apply wO pk;exact rfl));(repeat' (first|(show All _;constructor)|(show Imp _ _;constructor)|(apply wC pk;(iterate 2 exact rfl))|(apply wE pk;(iterate 2 exact rfl))|(refine aA rfl (fun h=> ?_) (fun h=> ?_)<;>(try simp at h)<;>try (exfalso;omega))|(refine aB ?_;refine ⟨_,_,_,rfl,Wk.refl _,StSub.refl _, ?_,rfl⟩;try first|rfl|((rw [hfin (by assumption)]);done))|(apply aI;(iterate 3 exact rfl);(intro _;apply f4<;>first|assumption|omega);rotate_left;(iterate 2 exact rfl))|((apply ixV pk 4;(iterate 6 exact rfl);(focus repeat' constructor);exact rfl;(intro _;rfl);(intro _;decide);(intro _;rfl);exact rfl))|(refine ⟨⟨5,by omega,hyu (by assumption)⟩, ?_,by simp only;omega⟩;((repeat (first|refine Sub.pv ?_ rfl|refine Sub.var ?_ rfl rfl));exact Sub.nil _ _ _ (StSub.refl _) rfl))|(intros;(try simp only [zql]);omega)))
theorem xL (table sum group:Int):PF Tryz.prog 15 [.agg (scC s), .agg (bsC b),(PV.val (Value.int .i64 (table))),(PV.val (Value.int .i64 (sum))),(PV.val (Value.int .i64 (group)))] (PV.val (Value.int .i64 (totC s b table sum group))):=by
  have hm:=gW hB
  have hsl:=hB.len
  by_cases hmay:¬mayC s b=true
  · have e:totC s b table sum group=0:=by unfold totC;rw [dif_neg (fun q=>hmay q.1)]
    have hmay:mayC s b=false:=by simpa using hmay
    rw [e]
    rw [hmay] at hm
    refine aH aD Tryz.func15 (by kernel_rfl) rfl rfl rfl rfl (fun st=> ?_)
    (try (apply wO pk;exact rfl));(repeat' (first|(show All _;constructor)|(show Imp _ _;constructor)|(show ImpX _ _ _ _;constructor)|(apply wC pk;(iterate 2 exact rfl))|(apply wE pk;(iterate 2 exact rfl))|(refine aA rfl (fun h=> ?_) (fun h=> ?_)<;>(try simp at h)<;>try (exfalso;omega))|(refine aB ?_;refine ⟨_,_,_,rfl,Wk.refl _,StSub.refl _, ?_,rfl⟩;try rfl)|(apply aI;(iterate 3 exact rfl);(intro _;apply hm<;>first|assumption|omega);rotate_left;(iterate 2 exact rfl))|((apply aM pk (j:=0) (row:=(default:Tb).cells);(iterate 6 exact rfl);rotate_left;exact rfl;(intro hw;exfalso;first|(focus (simp [gw] at hw;done))|(simp [gw] at hw;omega));(intro hw;exfalso;first|(focus (simp [gw] at hw;done))|(simp [gw] at hw;omega));(intro hw;exfalso;first|(focus (simp [gw] at hw;done))|(simp [gw] at hw;omega));exact rfl))))
  replace hmay:=Decidable.of_not_not hmay
  rw [hmay] at hm
  by_cases ht:¬(0≤table∧table<s.length)
  · have e:totC s b table sum group=0:=by unfold totC;rw [dif_neg (fun q=>ht q.2.1)]
    rw [e]
    refine aH aD Tryz.func15 (by kernel_rfl) rfl rfl rfl rfl (fun st=> ?_)
    (try (apply wO pk;exact rfl));(repeat' (first|(show All _;constructor)|(show Imp _ _;constructor)|(show ImpX _ _ _ _;constructor)|(apply wC pk;(iterate 2 exact rfl))|(apply wE pk;(iterate 2 exact rfl))|(refine aA rfl (fun h=> ?_) (fun h=> ?_)<;>(try simp at h)<;>try (exfalso;omega))|(refine aB ?_;refine ⟨_,_,_,rfl,Wk.refl _,StSub.refl _, ?_,rfl⟩;try rfl)|(apply aI;(iterate 3 exact rfl);(intro _;apply hm<;>first|assumption|omega);rotate_left;(iterate 2 exact rfl))|((apply aM pk (j:=0) (row:=(default:Tb).cells);(iterate 6 exact rfl);rotate_left;exact rfl;(intro hw;exfalso;first|(focus (simp [gw] at hw;done))|(simp [gw] at hw;omega));(intro hw;exfalso;first|(focus (simp [gw] at hw;done))|(simp [gw] at hw;omega));(intro hw;exfalso;first|(focus (simp [gw] at hw;done))|(simp [gw] at hw;omega));exact rfl))))
  replace ht:=Decidable.of_not_not ht
  obtain ⟨k,rfl⟩:∃k:Nat,table=(k:Int):=⟨table.toNat,by omega⟩
  have hk:k<s.length:=by omega
  have hmay2:=hmay
  unfold mayC at hmay
  rw [Bool.and_eq_true,decide_eq_true_eq] at hmay
  obtain ⟨hrc,hg⟩:=hmay
  have hrs:=pU hrc
  obtain ⟨⟨_,hbl⟩,_⟩:=gA.1 hg
  obtain ⟨n1,n2,n3,n4,n5⟩:=aaL hrs hk
  by_cases hs:¬(0≤sum∧sum<s[k].sums.length)
  · have e:totC s b k sum group=0:=by
      unfold totC
      rw [dif_neg]
      rintro ⟨_,_,q⟩
      rw [Int.toNat_natCast,getElem!_pos s k hk] at q
      exact hs q
    rw [e]
    refine aH aD Tryz.func15 (by kernel_rfl) rfl rfl rfl rfl (fun st=> ?_)
    (try (apply wO pk;exact rfl));(repeat' (first|(show All _;constructor)|(show Imp _ _;constructor)|(show ImpX _ _ _ _;constructor)|(apply wC pk;(iterate 2 exact rfl))|(apply wE pk;(iterate 2 exact rfl))|(refine aA rfl (fun h=> ?_) (fun h=> ?_)<;>(try simp at h)<;>try (exfalso;omega))|(refine aB ?_;refine ⟨_,_,_,rfl,Wk.refl _,StSub.refl _, ?_,rfl⟩;try rfl)|(apply aI;(iterate 3 exact rfl);(intro _;apply hm<;>first|assumption|omega);rotate_left;(iterate 2 exact rfl))|(apply aM pk;(iterate 6 exact rfl);rotate_left;exact rfl;(intro hw;exact rfl);(intro hw;apply aF<;>omega);(intro _;exact rfl);exact rfl)))
  replace hs:=Decidable.of_not_not hs
  obtain ⟨y,rfl⟩:∃y:Nat,sum=(y:Int):=⟨sum.toNat,by omega⟩
  have hy:y<s[k].sums.length:=by omega
  have hT:=pV hg hk (List.getElem_mem hy)
  have e:totC s b k y group=dI s[k].sums[y] group (bQ aZ b k):=by
    unfold totC
    rw [dif_pos ⟨hmay2,ht,by rw [Int.toNat_natCast,getElem!_pos s k hk];exact hs⟩]
    rw [Int.toNat_natCast,Int.toNat_natCast,getElem!_pos s k hk,getElem!_pos s[k].sums y hy]
  rw [e]
  have hsh:=sS hB (k:=k) (by omega)
  have hts:=sK s[k].sums[y] (bQ aZ b k) hT
  have hget:=atZ hT.ns group
  generalize dI s[k].sums[y] group (bQ aZ b k)=R at*
  generalize jZ s[k].sums[y] (bQ aZ b k)=M at*
  generalize nY s[k].sums[y] (bQ aZ b k)=G at*
  generalize bQ aZ b k=rows at*
  refine aH aD Tryz.func15 (by kernel_rfl) rfl rfl rfl rfl (fun st=> ?_)
  (try (apply wO pk;exact rfl));(repeat' (first|(show All _;constructor)|(show Imp _ _;constructor)|(show ImpX _ _ _ _;constructor)|(apply wC pk;(iterate 2 exact rfl))|(apply wE pk;(iterate 2 exact rfl))|(apply wD pk [] [];kernel_rfl;exact rfl;exact rfl)|(refine aA rfl (fun h=> ?_) (fun h=> ?_)<;>(try simp at h)<;>try (exfalso;omega))|(refine aB ?_;refine ⟨_,_,_,rfl,Wk.refl _,StSub.refl _, ?_,rfl⟩;try rfl)|(apply aI;(iterate 3 exact rfl);(intro _;(first|apply hm|apply hsh|apply hts)<;>first|assumption|omega);rotate_left;(iterate 2 exact rfl))|(apply aM pk;(iterate 6 exact rfl);rotate_left;exact rfl;(intro hw;exact rfl);(intro hw;apply aF<;>omega);(intro _;exact rfl);exact rfl)|((apply aAP pk qW (f:=jS) (z:=0) (k:=group) (n:=R);(iterate 5 exact rfl);rotate_left;exact rfl;exact rfl;exact hget))))
end
end Go.Proofs.YtcglimangneafaaGreatDoor
