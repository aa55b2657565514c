import Derived.Test.YtcglimangneafaaGreatDoorData
set_option linter.unusedSimpArgs false
set_option linter.unusedVariables false
namespace Go.Proofs.YtcglimangneafaaGreatDoor
open Go Go.Abs
attribute [local irreducible] Ev PWp
set_option maxRecDepth 10000
set_option maxHeartbeats 4000000
def nJ (xs:List Ln) (i:Nat) (ys:List Ln):List Ln:=xs.take i++ys++xs.drop i
theorem adF {xs:List Ln} {i:Nat} {ys:List Ln} (hi:i≤xs.length):(nJ xs i ys).length=xs.length+ys.length:=by
  unfold nJ
  simp only [List.length_append,List.length_take,List.length_drop];omega
def cM (xs:List Vl) (i:Nat) (ys:List Vl):List Vl:=xs.take i++ys++xs.drop i
theorem aeK (xs:List Vl) (i:Nat) (ys:List Vl):(cM xs i ys).map Vl.cells=(xs.map Vl.cells).take i++ys.map Vl.cells++(xs.map Vl.cells).drop i:=by
  unfold cM
  rw [List.map_append,List.map_append,List.map_take,List.map_drop]
theorem tE {xs:List Vl} {i:Nat} {ys:List Vl} (hi:i≤xs.length):(cM xs i ys).length=xs.length+ys.length:=by
  unfold cM
  simp only [List.length_append,List.length_take,List.length_drop];omega
def azG (st:aL) (id:Nat) (zs:List Vl) (r:PV) (S:aL):Prop:=∃id',r= .vec id' 3 0 zs.length∧upd st id none id'=none∧S=upd (upd st id none) id' (some (.arr 47 (zs.map Vl.cells)))
theorem adD (xs ys:List Vl) (i id n:Nat) (st:aL) (hst:st id=some (.arr 47 (xs.map Vl.cells))) (hn:xs.length=n) (hi:i≤n) (hy:ys≠[]) (hl:n+ys.length<1000000000000):PC Tryz.prog 185 [.vec id 3 0 n,(PV.val (Value.int .i64 ((i:Nat)))), .seq (ys.map Vl.cells)] st (azG st id (cM xs i ys)):=by
  obtain ⟨m,hm⟩:∃m,ys.length=m:=⟨_,rfl⟩
  have hln:(ys.map Vl.cells).length=m:=(zql _).trans hm
  have hm0:0<m:=by rw [←hm];exact List.length_pos_iff.2 hy
  rw [hm] at hl
  have hzl:(cM xs i ys).length=n+m:=by rw [tE (by omega),hn,hm]
  have hzm:=aeK xs i ys
  have hB:=abU
  refine eH aD Tryz.func185 (by kernel_rfl) rfl rfl rfl rfl ?_
  by_cases hin:i=n
  · subst hin
    have hz:cM xs i ys=xs++ys:=by unfold cM;rw [List.take_of_length_le (by omega),List.drop_of_length_le (by omega),List.append_nil]
    (try (apply wO pk;exact rfl));(repeat' (first|((exact absurd (show ys=[] by assumption) hy))|(show All _;constructor)|(show Imp _ _;constructor)|(apply wC pk;(iterate 2 exact rfl))|(apply wE pk;(iterate 2 exact rfl))|(refine aA rfl (fun h=> ?_) (fun h=> ?_)<;>(try simp at h)<;>try (exfalso;omega))|((try refine aB ?_);((refine ⟨_,_,_,rfl,Wk.refl _,StSub.refl _, ?_⟩;(exact ⟨id',(by rw [hzl,hm]),aeS hid',(by rw [hz];rfl)⟩);done)))|(apply apV pk (f:=Vl.cells) ys 32;(iterate 9 exact rfl);(assumption);(omega);exact fun _=>rfl;exact fun _=>rfl;exact hB;(omega);(omega);exact rfl;intro id' hid')|(apply aAw pk i i;(iterate 4 exact rfl);rotate_left;exact rfl;(intro _;exact cJ rfl rfl);(intro _;exact dC);(intro _;omega);(intro _;omega);exact rfl)))
  have hlt:i<n:=by omega
  have hxl:(xs.map Vl.cells).length=n:=(zql _).trans hn
  have hX1:∀r∈xs.map Vl.cells,r.all PV.one=true:=fun r hr=>by obtain ⟨a,_,rfl⟩:=List.mem_map.1 hr;rfl
  have hX3:∀r∈xs.map Vl.cells,r.length=3:=fun r hr=>by obtain ⟨a,_,rfl⟩:=List.mem_map.1 hr;rfl
  have hY1:∀r∈ys.map Vl.cells,r.all PV.one=true:=fun r hr=>by obtain ⟨a,_,rfl⟩:=List.mem_map.1 hr;rfl
  have hY3:∀r∈ys.map Vl.cells,r.length=3:=fun r hr=>by obtain ⟨a,_,rfl⟩:=List.mem_map.1 hr;rfl
  have hj:∀k,(xs.map Vl.cells++bY k 3).length=n+k:=fun k=>by rw [List.length_append,hxl];unfold bY;rw [List.length_replicate]
  generalize hXe:xs.map Vl.cells=X at*
  generalize hYe:ys.map Vl.cells=Y at*
  have hYn:Y≠[]:=fun e=>by rw [e] at hln;simp at hln;omega
  obtain ⟨yc,ycs,yr,hYc⟩:∃c cs rest,Y=(c::cs)::rest:=by
    cases hY0:Y with
    |nil=>exact absurd hY0 hYn
    |cons a b=>
      cases ha:a with
      |nil=>have:=hY3 a (by rw [hY0];simp);rw [ha] at this;cases this
      |cons c cs=>exact ⟨c,cs,b,rfl⟩
  refine aoV 0 m (id:=id) (rows:=X) rfl hst nP hxl (by omega) (by omega) (fun k id1 hk hid1=> ?_) (fun id1 hid1=> ?_)
  · have hid1:st id1=none:=hid1
    have htk:(X++bY k 3).take i=X.take i:=List.take_append_of_le_length (by omega)
    have hgl:(X.take i++bY (n+m-i) 3).length=n+m:=by rw [List.length_append,List.length_take];unfold bY;rw [List.length_replicate];omega
    have hg2:(bL (X.take i++bY (n+m-i) 3) i Y).length=n+m:=by rw [jP (by omega),hgl]
    have hgr:bL (bL (X.take i++bY (n+m-i) 3) i Y) (i+m) (X.drop i)=(cM xs i ys).map Vl.cells:=by rw [hzm];rw [←hxl];exact apX hln (by omega)
    (try (apply wO pk;exact rfl));(repeat' (first|((exact absurd (show Y=[] by assumption) hYn))|((refine aB ?_;refine ⟨_,_,upd (upd st id none) id2 (some (.arr 47 ((cM xs i ys).map Vl.cells))),rfl,Wk.refl _,agI (by rw [hgr]) hid1,id2,(by rw [hzl];congr 1;omega),afT hid2,rfl⟩))|(apply wD pk [8] [];kernel_rfl;exact rfl;exact rfl)|(show All _;constructor)|(show Imp _ _;constructor)|(apply wC pk;(iterate 2 exact rfl))|(apply wE pk;(iterate 2 exact rfl))|(refine aA rfl (fun h=> ?_) (fun h=> ?_)<;>(try simp at h)<;>try (exfalso;omega))|(refine azO pk (rows:=X++bY k 3) rfl rfl rfl rfl (.inr (aC _ _ _)) (by rw [hj];omega) rfl (fun c hc1 hc2=> ?_);have hc3:=hc2 (aC _ _ _);rw [hj] at hc3)|(apply axP pk (j:=i) (rows:=X++bY k 3);(iterate 4 exact rfl);rotate_left;exact rfl;exact rfl;exact .inr (aC _ _ _);(rw [hj];omega);exact cJ rfl rfl;(rw [hj];omega))|(refine apZ pk (kq:= .i64) (kn:= .i64) (i:=i) (m:=n+m-i) (sz:=3) (rows:=X++bY k 3) 32 rfl (congrArg (fun z=>some (PV.val (.int .i64 z))) (show _=((n+m-i:Nat):Int) from by omega)) rfl (by kernel_rfl) rfl rfl rfl rfl (aC _ _ _) (by rw [hj];omega) (by rw [hj];omega) (by rw [hj];omega) hB (by omega) (by omega) (by omega) rfl (fun id2 hid2=> ?_);rw [htk];have hne:id1≠id2:=(fun e=>by rw [←e] at hid2;have hid2:=(aC _ _ _).symm.trans hid2;cases hid2))|(apply sG pk (i) (n+m-i);(iterate 4 exact rfl);rotate_left;exact rfl;(intro _;exact ⟨_,cJ rfl rfl,by omega⟩);(intro _;exact ⟨_,dC,by omega⟩);(intro _;omega);(intro _;omega);exact rfl)|(apply sG pk (i+m) (n-i);(iterate 4 exact rfl);rotate_left;exact rfl;(intro _;exact ⟨_,cJ rfl (show _=((i+m:Nat):Int) from by omega),by omega⟩);(intro _;exact ⟨_,dC,by omega⟩);(intro _;omega);(intro _;omega);exact rfl)|(apply sG pk (i) (n-i);(iterate 4 exact rfl);rotate_left;exact rfl;(intro _;exact ⟨_,cJ rfl rfl,by omega⟩);(intro _;exact ⟨_,dC,by omega⟩);(intro _;omega);(intro _;omega);exact rfl)|(refine ajU pk (e:=47) (sz:=3) (rows:=X.take i++bY (n+m-i) 3) (new:=Y) (m:=Y.length) (n:=Y.length) (len:=n+m-i) rfl rfl rfl rfl rfl (aC _ _ _) (by omega) (atJ aD rfl rfl rfl hY3 hY1) rfl hY3 (by omega) (by omega) rfl ?_)|(refine ajU pk (e:=47) (sz:=3) (rows:=bL (X.take i++bY (n+m-i) 3) i Y) (new:=X.drop i) (m:=n-i) (n:=n-i) (len:=n-i) rfl rfl rfl rfl rfl (aC _ _ _) (by omega) (akS (k:=k) rfl (.inr ((aG (by assumption)).trans ((aG (by assumption)).trans (aC _ _ _)))) hxl (by omega) nP hX1 (by omega) (by omega)) (by rw [List.length_drop];omega) (fun r hr=>hX3 r (List.mem_of_mem_drop hr)) (by omega) (by omega) rfl ?_)|(intros;(try simp only [zql]);omega)))
  · have hid1:st id1=none:=hid1
    have hg2:(bL (X++bY m 3) (i+m) (X.drop i)).length=n+m:=by rw [jP (by rw [List.length_drop,hj];omega),hj]
    have hgr:bL (bL (X++bY m 3) (i+m) (X.drop i)) i Y=(cM xs i ys).map Vl.cells:=by rw [hzm];exact asB hln (by omega)
    (try (apply wO pk;exact rfl));(repeat' (first|((exact absurd (show Y=[] by assumption) hYn))|((refine aB ?_;refine ⟨_,_,upd (upd st id none) id1 (some (.arr 47 ((cM xs i ys).map Vl.cells))),rfl,Wk.refl _,agD (by rw [hgr]),id1,(by rw [hzl]),aeS hid1,rfl⟩))|(apply wD pk [8] [];kernel_rfl;exact rfl;exact rfl)|(show All _;constructor)|(show Imp _ _;constructor)|(apply wC pk;(iterate 2 exact rfl))|(apply wE pk;(iterate 2 exact rfl))|(refine aA rfl (fun h=> ?_) (fun h=> ?_)<;>(try simp at h)<;>try (exfalso;omega))|(apply sG pk (i) (n-i);(iterate 4 exact rfl);rotate_left;exact rfl;(intro _;exact ⟨_,cJ rfl rfl,by omega⟩);(intro _;exact ⟨_,dC,by omega⟩);(intro _;omega);(intro _;omega);exact rfl)|(apply sG pk (i) (n+m-i);(iterate 4 exact rfl);rotate_left;exact rfl;(intro _;exact ⟨_,cJ rfl rfl,by omega⟩);(intro _;exact ⟨_,dC,by omega⟩);(intro _;omega);(intro _;omega);exact rfl)|(apply sG pk (i+m) (n-i);(iterate 4 exact rfl);rotate_left;exact rfl;(intro _;exact ⟨_,cJ rfl (show _=((i+m:Nat):Int) from by omega),by omega⟩);(intro _;exact ⟨_,dC,by omega⟩);(intro _;omega);(intro _;omega);exact rfl)|(refine azO pk (rows:=X++bY m 3) rfl rfl rfl rfl (.inl (aC _ _ _)) (by rw [hj];omega) rfl (fun c hc1 hc2=> ?_);rw [hj] at hc1)|(apply axP pk (j:=n+m) (rows:=X++bY m 3);(iterate 4 exact rfl);rotate_left;exact rfl;exact rfl;exact .inl (aC _ _ _);(rw [hj];omega);exact cJ rfl (show _=((n+m:Nat):Int) from by omega);(rw [hj];omega))|(refine ovA pk (w:=true) (tS:=44) (tR:=4) (off:=i+m) (len:=n-i) (e:=47) (sz:=3) (rows:=X++bY m 3) rfl rfl Tryz.func226 (by kernel_rfl) (by kernel_rfl) (by kernel_rfl) (by kernel_rfl) rfl rfl rfl hYc rfl (.inl (aC _ _ _)) (by rw [hj];omega) nP (by omega) ?_ rfl rfl ?_;rotate_left)|(refine ajU pk (e:=47) (sz:=3) (rows:=X++bY m 3) (new:=X.drop i) (m:=n+m-i) (n:=n-i) (len:=n-i) rfl rfl rfl rfl rfl (aC _ _ _) (by rw [hj];omega) (akS (k:=m) rfl (.inl (aC _ _ _)) hxl (by omega) nP hX1 (by omega) (by omega)) (by rw [List.length_drop];omega) (fun r hr=>hX3 r (List.mem_of_mem_drop hr)) (by omega) (by omega) rfl ?_)|(refine ajU pk (e:=47) (sz:=3) (rows:=bL (X++bY m 3) (i+m) (X.drop i)) (new:=Y) (m:=Y.length) (n:=Y.length) (len:=n+m-i) rfl rfl rfl rfl rfl (aC _ _ _) (by omega) (atJ aD rfl rfl rfl hY3 hY1) rfl hY3 (by omega) (by omega) rfl ?_)|(intros;(try simp only [zql]);omega)))
end Go.Proofs.YtcglimangneafaaGreatDoor
