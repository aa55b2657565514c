import Derived.Test.YtloecjjehapblaaGreatDoorOpAy
import Derived.Test.YtloecjjehapblaaGreatDoorAbsK
import Derived.Test.YtloecjjehapblaaGreatDoorAbsG
set_option linter.unusedSimpArgs false
set_option linter.unusedVariables false
namespace Go.Proofs.YtloecjjehapblaaGreatDoor
open Go Go.Abs
attribute [local irreducible] Ev PWp
set_option maxRecDepth 10000
set_option maxHeartbeats 4000000
theorem dU (n a b:Int):PF Tryz.prog 148 [(PV.val (Value.int .i64 (n))),(PV.val (Value.int .i64 (a))),(PV.val (Value.int .i64 (b)))] (PV.val (Value.bool (T.withinB n a b))):=by
 refine aG aF Tryz.func148 (by kernel_rfl) rfl rfl rfl rfl (λst=> ?_)
 (try apply wO pk;rfl);(repeat' first|show All _;constructor|show Imp _ _;constructor|show ImpX _ _ _ _;constructor|(refine aC ?_;refine ⟨_,_,_,rfl,zwr _,zsr _, ?_,rfl⟩;try rfl))
theorem mN (n:Int):PF Tryz.prog 151 [(PV.val (Value.int .i64 (n)))] (PV.val (Value.bool (auI n))):=by
 have h:=dU n 0 1073741823
 refine aG aF Tryz.func151 (by kernel_rfl) rfl rfl rfl rfl (λst=> ?_)
 (try apply wO pk;rfl);(repeat' first|show All _;constructor|show Imp _ _;constructor|apply wE pk;rfl;rfl|(refine aC ?_;refine ⟨_,_,_,rfl,zwr _,zsr _, ?_,rfl⟩;try rfl)|(apply aH;rfl;rfl;rfl;(intro _;apply h<;>first|assumption|omega);rotate_left;rfl;rfl))
theorem aFT (d:Dt):(decide (d.dev=0)&&decide (d.seq=0))=decide (d=Dt.zero):=by
 rw [Bool.eq_iff_iff];simp [Dt.ext_iff,Dt.zero]
theorem aD8 (v:Vl):(decide (v.kind=0)&&(decide (v.n=0)&&decide (v.s=e0)))=decide (v=Vl.zero):=by
 rw [Bool.eq_iff_iff];simp [Vl.ext_iff,Vl.zero]
theorem zT (o:Ot):PF Tryz.prog 153 [.agg o.cells] (PV.val (Value.bool (rH o))):=by
 have e:rH o=(((decide (o.col=0)&&decide (o.val=Vl.zero))&&decide (o.after=Dt.zero))&&decide (o.at_=0)):=by unfold rH;rw [Bool.eq_iff_iff];simp [and_assoc]
 rw [e,<-aFT,<-aD8]
 refine aG aF Tryz.func153 (by kernel_rfl) rfl rfl rfl rfl (λst=> ?_)
 (try apply wO pk;rfl);(repeat' first|show All _;constructor|show Imp _ _;constructor|show ImpX _ _ _ _;constructor|(refine aC ?_;refine ⟨_,_,_,rfl,zwr _,zsr _, ?_,rfl⟩;try rfl))
theorem agV (t:Tb) (o:Ot) (hr:PF Tryz.prog 105 [.seq (t.cols.map Co.cells), .seq (o.row.map Vl.cells)] (PV.val (Value.int .i64 (eM t o.row)))):PF Tryz.prog 150 [.agg t.cells, .agg o.cells] (PV.val (Value.int .i64 (apX t o))):=by
 have hb:=zT o
 unfold apX
 generalize eM t o.row=R at*
 generalize rH o=B at*
 by_cases h0:o.key≠0\/B=false
 ·rw [if_pos h0]
  refine aG aF Tryz.func150 (by kernel_rfl) rfl rfl rfl rfl (λst=> ?_)
  (try apply wO pk;rfl);(repeat' first|exfalso;revert h0;simp_all;done|show All _;constructor|show Imp _ _;constructor|show ImpX _ _ _ _;constructor|apply wC pk;rfl;rfl|apply wE pk;rfl;rfl|refine aA rfl ?_ ?_<;>intro h<;>(try simp at h)<;>try omega|(refine aC ?_;refine ⟨_,_,_,rfl,zwr _,zsr _, ?_,rfl⟩;try rfl)|(apply aH;rfl;rfl;rfl;(intro _;(apply hb)<;>first|assumption|omega);rotate_left;rfl;rfl))
 rw [if_neg h0]
 simp only [not_or,Decidable.not_not,Bool.not_eq_false] at h0
 obtain ⟨h0,rfl⟩:=h0
 by_cases h1:R≠0
 ·rw [if_pos h1]
  refine aG aF Tryz.func150 (by kernel_rfl) rfl rfl rfl rfl (λst=> ?_)
  (try apply wO pk;rfl);(repeat' first|show All _;constructor|show Imp _ _;constructor|show ImpX _ _ _ _;constructor|apply wC pk;rfl;rfl|apply wE pk;rfl;rfl|refine aA rfl ?_ ?_<;>intro h<;>(try simp at h)<;>try omega|(refine aC ?_;refine ⟨_,_,_,rfl,zwr _,zsr _, ?_,rfl⟩;try rfl)|(apply aH;rfl;rfl;rfl;(intro _;(first|apply hb|apply hr)<;>first|assumption|omega);rotate_left;rfl;rfl))
 rw [if_neg h1]
 have h1:=Decidable.of_not_not h1
 by_cases h2:o.row.length=0
 ·rw [if_pos (.inl h2)]
  refine aG aF Tryz.func150 (by kernel_rfl) rfl rfl rfl rfl (λst=> ?_)
  (try apply wO pk;rfl);(repeat' first|show All _;constructor|show Imp _ _;constructor|show ImpX _ _ _ _;constructor|apply wC pk;rfl;rfl|apply wE pk;rfl;rfl|refine aA rfl ?_ ?_<;>intro h<;>(try simp at h)<;>try omega|(refine aC ?_;refine ⟨_,_,_,rfl,zwr _,zsr _, ?_,rfl⟩;try rfl)|(apply aH;rfl;rfl;rfl;(intro _;(first|apply hb|apply hr|apply (mN 0))<;>first|assumption|omega);rotate_left;rfl;rfl)|apply aN pk (j:=0) (row:=Vl.zero.cells);(iterate 6 rfl);rotate_left;rfl;(intro hw;exact absurd hw (by simp [gw,h2]));(intro hw;exact absurd hw (by simp [gw,h2]));(intro hw;exact absurd hw (by simp [gw,h2]));rfl|exfalso;simp_all;done)
 have hpos:0<o.row.length:=by omega
 have hk:=mN o.row[0].n
 rw [getElem!_pos o.row 0 hpos]
 generalize auI o.row[0].n=K at*
 cases K with
 |false=>
  rw [if_pos (.inr rfl)]
  refine aG aF Tryz.func150 (by kernel_rfl) rfl rfl rfl rfl (λst=> ?_)
  (try apply wO pk;rfl);(repeat' first|show All _;constructor|show Imp _ _;constructor|show ImpX _ _ _ _;constructor|apply wC pk;rfl;rfl|apply wE pk;rfl;rfl|refine aA rfl ?_ ?_<;>intro h<;>(try simp at h)<;>try omega|(refine aC ?_;refine ⟨_,_,_,rfl,zwr _,zsr _, ?_,rfl⟩;try rfl)|(apply aH;rfl;rfl;rfl;(intro _;(first|apply hb|apply hr|apply hk)<;>first|assumption|omega);rotate_left;rfl;rfl)|apply aN pk;(iterate 6 rfl);rotate_left;rfl;(intro hw;rfl);(intro hw;apply aI<;>omega);(intro _;rfl);rfl)
 |true=>
  rw [if_neg (by rintro (q|q);omega;cases q)]
  refine aG aF Tryz.func150 (by kernel_rfl) rfl rfl rfl rfl (λst=> ?_)
  (try apply wO pk;rfl);(repeat' first|show All _;constructor|show Imp _ _;constructor|show ImpX _ _ _ _;constructor|apply wC pk;rfl;rfl|apply wE pk;rfl;rfl|refine aA rfl ?_ ?_<;>intro h<;>(try simp at h)<;>try omega|(refine aC ?_;refine ⟨_,_,_,rfl,zwr _,zsr _, ?_,rfl⟩;try rfl)|(apply aH;rfl;rfl;rfl;(intro _;(first|apply hb|apply hr|apply hk)<;>first|assumption|omega);rotate_left;rfl;rfl)|apply aN pk;(iterate 6 rfl);rotate_left;rfl;(intro hw;rfl);(intro hw;apply aI<;>omega);(intro _;rfl);rfl|exfalso;simp_all;done)
theorem axL (c:Co) (o:Ot):PF Tryz.prog 231 [.agg c.cells, .agg o.cells] (PV.val (Value.int .i64 (qO c o))):=by
 have hv:=iS o.val
 have hz:=aD8 o.val
 unfold qO
 generalize cJ o.val=V at*
 generalize hZ:decide (o.val=Vl.zero)=Z at*
 have hZ1:o.val≠Vl.zero↔Z=false:=by rw [<-hZ];simp
 by_cases h0:(o.kind=7/\o.val≠Vl.zero)\/V=false
 ·rw [if_pos h0]
  rw [hZ1] at h0
  refine aG aF Tryz.func231 (by kernel_rfl) rfl rfl rfl rfl (λst=> ?_)
  (try apply wO pk;rfl);(repeat' first|show All _;constructor|show Imp _ _;constructor|show ImpX _ _ _ _;constructor|apply wC pk;rfl;rfl|apply wE pk;rfl;rfl|refine aA rfl ?_ ?_<;>intro h<;>(try simp at h)<;>try omega|(refine aC ?_;refine ⟨_,_,_,rfl,zwr _,zsr _, ?_,rfl⟩;try rfl)|(apply aH;rfl;rfl;rfl;(intro _;apply hv<;>first|assumption|omega);rotate_left;rfl;rfl)|(exfalso;grind))
 rw [if_neg h0]
 rw [hZ1] at h0
 by_cases h7:o.kind=7
 ·rw [if_pos h7]
  refine aG aF Tryz.func231 (by kernel_rfl) rfl rfl rfl rfl (λst=> ?_)
  (try apply wO pk;rfl);(repeat' first|show All _;constructor|show Imp _ _;constructor|show ImpX _ _ _ _;constructor|apply wC pk;rfl;rfl|apply wE pk;rfl;rfl|refine aA rfl ?_ ?_<;>intro h<;>(try simp at h)<;>try omega|(refine aC ?_;refine ⟨_,_,_,rfl,zwr _,zsr _, ?_,rfl⟩;try rfl)|(apply aH;rfl;rfl;rfl;(intro _;apply hv<;>first|assumption|omega);rotate_left;rfl;rfl)|(exfalso;grind))
 rw [if_neg h7]
 by_cases h2:o.kind=2/\o.val.kind=0
 ·rw [if_pos h2]
  obtain ⟨h2,h3⟩:=h2
  cases hn:c.null
  ·rw [if_neg (by simp)]
   refine aG aF Tryz.func231 (by kernel_rfl) rfl rfl rfl rfl (λst=> ?_)
   (try apply wO pk;rfl);(repeat' first|show All _;constructor|show Imp _ _;constructor|show ImpX _ _ _ _;constructor|apply wC pk;rfl;rfl|apply wE pk;rfl;rfl|refine aA rfl ?_ ?_<;>intro h<;>(try simp at h)<;>try omega|(refine aC ?_;refine ⟨_,_,_,rfl,zwr _,zsr _, ?_,rfl⟩;try rfl)|(apply aH;rfl;rfl;rfl;(intro _;apply hv<;>first|assumption|omega);rotate_left;rfl;rfl)|(exfalso;grind))
  ·rw [if_pos rfl]
   refine aG aF Tryz.func231 (by kernel_rfl) rfl rfl rfl rfl (λst=> ?_)
   (try apply wO pk;rfl);(repeat' first|show All _;constructor|show Imp _ _;constructor|show ImpX _ _ _ _;constructor|apply wC pk;rfl;rfl|apply wE pk;rfl;rfl|refine aA rfl ?_ ?_<;>intro h<;>(try simp at h)<;>try omega|(refine aC ?_;refine ⟨_,_,_,rfl,zwr _,zsr _, ?_,rfl⟩;try rfl)|(apply aH;rfl;rfl;rfl;(intro _;apply hv<;>first|assumption|omega);rotate_left;rfl;rfl)|(exfalso;grind))
 rw [if_neg h2]
 by_cases h3:(o.kind=2/\o.val.kind≠c.type_)\/(o.kind=6/\o.val.kind≠2)
 ·rw [if_pos h3]
  refine aG aF Tryz.func231 (by kernel_rfl) rfl rfl rfl rfl (λst=> ?_)
  (try apply wO pk;rfl);(repeat' first|show All _;constructor|show Imp _ _;constructor|show ImpX _ _ _ _;constructor|apply wC pk;rfl;rfl|apply wE pk;rfl;rfl|refine aA rfl ?_ ?_<;>intro h<;>(try simp at h)<;>try omega|(refine aC ?_;refine ⟨_,_,_,rfl,zwr _,zsr _, ?_,rfl⟩;try rfl)|(apply aH;rfl;rfl;rfl;(intro _;apply hv<;>first|assumption|omega);rotate_left;rfl;rfl)|(exfalso;grind))
 rw [if_neg h3]
 by_cases h4:o.kind≠2/\o.kind≠6/\o.val.kind≠1
 ·rw [if_pos h4]
  refine aG aF Tryz.func231 (by kernel_rfl) rfl rfl rfl rfl (λst=> ?_)
  (try apply wO pk;rfl);(repeat' first|show All _;constructor|show Imp _ _;constructor|show ImpX _ _ _ _;constructor|apply wC pk;rfl;rfl|apply wE pk;rfl;rfl|refine aA rfl ?_ ?_<;>intro h<;>(try simp at h)<;>try omega|(refine aC ?_;refine ⟨_,_,_,rfl,zwr _,zsr _, ?_,rfl⟩;try rfl)|(apply aH;rfl;rfl;rfl;(intro _;apply hv<;>first|assumption|omega);rotate_left;rfl;rfl)|(exfalso;grind))
 rw [if_neg h4]
 refine aG aF Tryz.func231 (by kernel_rfl) rfl rfl rfl rfl (λst=> ?_)
 (try apply wO pk;rfl);(repeat' first|show All _;constructor|show Imp _ _;constructor|show ImpX _ _ _ _;constructor|apply wC pk;rfl;rfl|apply wE pk;rfl;rfl|refine aA rfl ?_ ?_<;>intro h<;>(try simp at h)<;>try omega|(refine aC ?_;refine ⟨_,_,_,rfl,zwr _,zsr _, ?_,rfl⟩;try rfl)|(apply aH;rfl;rfl;rfl;(intro _;apply hv<;>first|assumption|omega);rotate_left;rfl;rfl)|(exfalso;grind))
theorem anI (o:Ot):PF Tryz.prog 232 [.agg o.cells] (PV.val (Value.bool (agF o))):=by
 have h1:=dU o.after.dev 1 64
 have h2:=dU o.after.seq 1 1048576
 have h3:=dU o.at_ 0 1999
 unfold agF T.mayN
 have e:(o.after=Dt.zero/\o.at_=0)↔((o.after.dev=0/\o.after.seq=0)/\o.at_=0):=by rw [Dt.ext_iff];rfl
 by_cases h:o.after=Dt.zero/\o.at_=0
 ·rw [if_pos h]
  rw [e] at h
  obtain ⟨⟨a1,a2⟩,a3⟩:=h
  refine aG aF Tryz.func232 (by kernel_rfl) rfl rfl rfl rfl (λst=> ?_)
  (try apply wO pk;rfl);(repeat' first|show All _;constructor|show Imp _ _;constructor|show ImpX _ _ _ _;constructor|apply wC pk;rfl;rfl|refine aA rfl ?_ ?_<;>intro h<;>(try simp at h)<;>try omega|(refine aC ?_;refine ⟨_,_,_,rfl,zwr _,zsr _, ?_,rfl⟩;try first|rfl|(simp;done);done))
 ·rw [if_neg h]
  rw [e] at h
  generalize T.withinB o.after.dev 1 64=A at*
  generalize T.withinB o.after.seq 1 1048576=B at*
  generalize T.withinB o.at_ 0 1999=C at*
  refine aG aF Tryz.func232 (by kernel_rfl) rfl rfl rfl rfl (λst=> ?_)
  (try apply wO pk;rfl);(repeat' first|show All _;constructor|show Imp _ _;constructor|show ImpX _ _ _ _;constructor|apply wC pk;rfl;rfl|apply wE pk;rfl;rfl|refine aA rfl ?_ ?_<;>intro h<;>(try simp at h)<;>try omega|(refine aC ?_;refine ⟨_,_,_,rfl,zwr _,zsr _, ?_,rfl⟩;try first|rfl|(by_cases q6:o.kind=6<;>by_cases q7:o.kind=7<;>simp_all;done);done)|(apply aH;rfl;rfl;rfl;(intro _;(first|apply h1|apply h2|apply h3)<;>first|assumption|omega);rotate_left;rfl;rfl))
def aBu :List (Value×PV):=[(.int .i64 2, .seq [I1 0,I1 1]),(.int .i64 3, .seq [I1 2]),(.int .i64 4, .seq [I1 3]),(.int .i64 5, .seq [I1 3]),(.int .i64 6, .seq [I1 4]),(.int .i64 7, .seq [I1 4])]
theorem lP :PF Tryz.prog 230 [] (.fmap aBu):=by
 refine aG aF Tryz.func230 (by kernel_rfl) rfl rfl rfl rfl (λst=> ?_)
 focus ((try apply wO pk;rfl);(repeat' first|apply iP 0;rfl;exact aB _ _ _|((refine aC ?_;exact ⟨_,_,st,rfl,zwr _,StSub.via id hid (λj h=>by repeat (first|refine Eq.trans (aD h) ?_|rfl)),rfl,rfl⟩))|show All _;constructor|apply wE pk;rfl;rfl|((refine nQ rfl (λid hid=> ?_)))|apply qG aF;exact .inl rfl;(iterate 7 rfl);exact aB _ _ _;rfl))
def yV (k:Int):List Int:=if k=2 then [0,1] else if k=3 then [2] else if k=4\/k=5 then [3] else if k=6\/k=7 then [4] else []
theorem atE (k:Int):(yV k).length<=2:=by
 unfold yV
 (repeat' split)<;>simp
theorem aBd (k c:Int):((yV k).any λy=>decide (c=y))=aeI k c:=by
 unfold yV aeI
 repeat' split
 all_goals first|rfl|(rw [Bool.eq_iff_iff];simp)
theorem ajO {k:Int} (h1:2<=k) (h2:k<=7):gK tt 302 aBu (.int .i64 k) false=some (.seq ((yV k).map I1)):=by
 have:k=2\/k=3\/k=4\/k=5\/k=6\/k=7:=by omega
 rcases this with rfl|rfl|rfl|rfl|rfl|rfl<;>rfl
theorem abJ (l:List Int) (x:Int) (hl:l.length<4611686018427387904):PF Tryz.prog 229 [.seq (l.map I1),(PV.val (Value.int .i64 (x)))] (PV.val (Value.bool (l.any λy=>decide (x=y)))):=by
 have hx:PF Tryz.prog 303 [.seq (l.map I1),(PV.val (Value.int .i64 (x)))] (PV.val (Value.int .i64 (cR (λy=>decide (x=y)) l))):=by
  refine aG aF Tryz.func303 (by kernel_rfl) rfl rfl rfl rfl (λst=> ?_)
  (try apply wO pk;rfl);(repeat' (show All _;constructor))
  refine aK (X:={y:Nat//y<=l.length/\∀j (h:j<y) (h2:j<l.length),decide (x=l[j])=false}) (λi=>(((((St.nil 19 st).pv 0 (.seq (l.map I1))).pv 1 ((PV.val (Value.int .i64 (x))))).pv 7 ((PV.val (Value.int .i64 ((((l.map I1)).length:Nat)))))).pv 8 ((PV.val (Value.int .i64 ((i.1:Nat))))))) (λi=>l.length-i.1) ⟨0,by omega,by omega⟩ ?_ (λi=> ?_)
  ·((repeat refine Sub.pv ?_ rfl);exact Sub.nil _ _ _ (zsr _) rfl)
  obtain ⟨i,h1,hinv⟩:=i
  dsimp only
  (try apply wO pk;rfl);(repeat' first|show All _;constructor|show Imp _ _;constructor|apply wC pk;rfl;rfl|apply wE pk;rfl;rfl|refine aA rfl ?_ ?_<;>intro h<;>(try simp at h)<;>try omega|(refine aC ?_;refine ⟨_,_,_,rfl,zwr _,zsr _, ?_,rfl⟩;try first|rfl|(first|unfold cR;rw [nJ (f:=λy=>decide (x=y)) ‹_› (by simp_all) hinv];done|(unfold cR;rw [mW (f:=λy=>decide (x=y)) ‹_› hinv]));done)|apply aN pk;(iterate 6 rfl);rotate_left;rfl;(intro hw;rfl);(intro hw;apply aI<;>omega);(intro _;rfl);rfl|refine ⟨⟨i+1,by omega,λj h1 h2=>by rcases Nat.lt_succ_iff_lt_or_eq.1 h1 with q|q;exact hinv j q h2;subst q;exact decide_eq_false (by simp_all)⟩, ?_,by simp only;omega⟩;((repeat refine Sub.pv ?_ rfl);exact Sub.nil _ _ _ (zsr _) rfl)|intros;(try simp only [zql]);omega)
 have e:decide (cR (λy=>decide (x=y)) l>=0)=l.any λy=>decide (x=y):=by
  unfold cR
  cases h:l.findIdx? (λy=>decide (x=y)) with
  |none=>
   have:=List.findIdx?_eq_none_iff.1 h
   rw [Bool.eq_iff_iff,List.any_eq_true]
   simp only [zde]
   constructor
   ·intro q;omega
   ·rintro ⟨y,hy,q⟩
    have:=this y hy
    simp [q] at this
  |some k=>
   obtain ⟨q1,q2,_⟩:=List.findIdx?_eq_some_iff_getElem.1 h
   rw [Bool.eq_iff_iff,List.any_eq_true]
   constructor
   ·exact λ_=>⟨_,zgm q1,q2⟩
   ·intro _;simp
 refine aG aF Tryz.func229 (by kernel_rfl) rfl rfl rfl rfl (λst=> ?_)
 (try apply wO pk;rfl);(repeat' first|show All _;constructor|show Imp _ _;constructor|apply wE pk;rfl;rfl|(refine aC ?_;refine ⟨_,_,_,rfl,zwr _,zsr _, ?_,rfl⟩;try first|rfl|(rw [<-e]);done)|(apply aH;rfl;rfl;rfl;(intro _;apply hx<;>first|assumption|omega);rotate_left;rfl;rfl))
theorem anE (t:Tb) (o:Ot) (ht:t.cols.length<1000000000000) (hk:2<=o.kind/\o.kind<=7):PF Tryz.prog 152 [.agg t.cells, .agg o.cells] (PV.val (Value.int .i64 (aaF t o))):=by
 obtain ⟨hk1,hk2⟩:=hk
 have hp:=anI o
 have hlook:=ajO hk1 hk2
 unfold aaF
 by_cases h0:o.col<0\/o.col>=t.cols.length
 ·rw [if_pos h0]
  refine aG aF Tryz.func152 (by kernel_rfl) rfl rfl rfl rfl (λst=> ?_)
  (try apply wO pk;rfl);(repeat' first|show All _;constructor|show Imp _ _;constructor|show ImpX _ _ _ _;constructor|apply wC pk;rfl;rfl|refine aA rfl ?_ ?_<;>intro h<;>(try simp at h)<;>try omega|(refine aC ?_;refine ⟨_,_,_,rfl,zwr _,zsr _, ?_,rfl⟩;try rfl))
 rw [if_neg h0]
 by_cases h1:o.col=0
 ·rw [if_pos h1]
  refine aG aF Tryz.func152 (by kernel_rfl) rfl rfl rfl rfl (λst=> ?_)
  (try apply wO pk;rfl);(repeat' first|show All _;constructor|show Imp _ _;constructor|show ImpX _ _ _ _;constructor|apply wC pk;rfl;rfl|refine aA rfl ?_ ?_<;>intro h<;>(try simp at h)<;>try omega|(refine aC ?_;refine ⟨_,_,_,rfl,zwr _,zsr _, ?_,rfl⟩;try rfl))
 rw [if_neg h1]
 obtain ⟨j,hj⟩:∃j:Nat,o.col=j:=⟨o.col.toNat,by omega⟩
 have hjl:j<t.cols.length:=by omega
 rw [hj,Int.toNat_natCast,getElem!_pos t.cols j hjl]
 have hc:=abJ (yV o.kind) t.cols[j].kind (by have:=atE o.kind;omega)
 rw [aBd] at hc
 have hv:=axL t.cols[j] o
 generalize qO t.cols[j] o=V at*
 generalize agF o=Pl at*
 generalize aeI o.kind t.cols[j].kind=F at*
 generalize (yV o.kind).map I1=FL at*
 cases F with
 |false=>
  rw [if_pos rfl]
  refine aG aF Tryz.func152 (by kernel_rfl) rfl rfl rfl rfl (λst=> ?_)
  (try apply wO pk;rfl);(repeat' first|show All _;constructor|show Imp _ _;constructor|show ImpX _ _ _ _;constructor|apply wC pk;rfl;rfl|apply wE pk;rfl;rfl|apply wD pk [] [];kernel_rfl;rfl;rfl|refine aA rfl ?_ ?_<;>intro h<;>(try simp at h)<;>try omega|(refine aC ?_;refine ⟨_,_,_,rfl,zwr _,zsr _, ?_,rfl⟩;try rfl)|(apply aH;rfl;rfl;rfl;(intro _;(first|apply lP|apply hc)<;>first|assumption|omega);rotate_left;rfl;rfl)|apply aN pk;(iterate 6 rfl);rotate_left;rfl;(intro hw;exact hj);(intro hw;apply aI<;>omega);(intro _;rfl);rfl|apply kV pk;(iterate 4 rfl);(focus repeat' constructor);rfl;exact hlook;rfl)
 |true=>
 rw [if_neg (by simp)]
 by_cases hV:V≠0
 ·rw [if_pos hV]
  refine aG aF Tryz.func152 (by kernel_rfl) rfl rfl rfl rfl (λst=> ?_)
  (try apply wO pk;rfl);(repeat' first|show All _;constructor|show Imp _ _;constructor|show ImpX _ _ _ _;constructor|apply wC pk;rfl;rfl|apply wE pk;rfl;rfl|apply wD pk [] [];kernel_rfl;rfl;rfl|refine aA rfl ?_ ?_<;>intro h<;>(try simp at h)<;>try omega|(refine aC ?_;refine ⟨_,_,_,rfl,zwr _,zsr _, ?_,rfl⟩;try rfl)|(apply aH;rfl;rfl;rfl;(intro _;(first|apply lP|apply hc|apply hv)<;>first|assumption|omega);rotate_left;rfl;rfl)|apply aN pk;(iterate 6 rfl);rotate_left;rfl;(intro hw;exact hj);(intro hw;apply aI<;>omega);(intro _;rfl);rfl|apply kV pk;(iterate 4 rfl);(focus repeat' constructor);rfl;exact hlook;rfl)
 rw [if_neg hV]
 cases Pl with
 |false=>
  rw [if_pos rfl]
  refine aG aF Tryz.func152 (by kernel_rfl) rfl rfl rfl rfl (λst=> ?_)
  (try apply wO pk;rfl);(repeat' first|show All _;constructor|show Imp _ _;constructor|show ImpX _ _ _ _;constructor|apply wC pk;rfl;rfl|apply wE pk;rfl;rfl|apply wD pk [] [];kernel_rfl;rfl;rfl|refine aA rfl ?_ ?_<;>intro h<;>(try simp at h)<;>try omega|(refine aC ?_;refine ⟨_,_,_,rfl,zwr _,zsr _, ?_,rfl⟩;try rfl)|(apply aH;rfl;rfl;rfl;(intro _;(first|apply lP|apply hc|apply hv|apply hp)<;>first|assumption|omega);rotate_left;rfl;rfl)|apply aN pk;(iterate 6 rfl);rotate_left;rfl;(intro hw;exact hj);(intro hw;apply aI<;>omega);(intro _;rfl);rfl|apply kV pk;(iterate 4 rfl);(focus repeat' constructor);rfl;exact hlook;rfl)
 |true=>
  rw [if_neg (by simp)]
  refine aG aF Tryz.func152 (by kernel_rfl) rfl rfl rfl rfl (λst=> ?_)
  (try apply wO pk;rfl);(repeat' first|show All _;constructor|show Imp _ _;constructor|show ImpX _ _ _ _;constructor|apply wC pk;rfl;rfl|apply wE pk;rfl;rfl|apply wD pk [] [];kernel_rfl;rfl;rfl|refine aA rfl ?_ ?_<;>intro h<;>(try simp at h)<;>try omega|(refine aC ?_;refine ⟨_,_,_,rfl,zwr _,zsr _, ?_,rfl⟩;try rfl)|(apply aH;rfl;rfl;rfl;(intro _;(first|apply lP|apply hc|apply hv|apply hp)<;>first|assumption|omega);rotate_left;rfl;rfl)|apply aN pk;(iterate 6 rfl);rotate_left;rfl;(intro hw;exact hj);(intro hw;apply aI<;>omega);(intro _;rfl);rfl|apply kV pk;(iterate 4 rfl);(focus repeat' constructor);rfl;exact hlook;rfl)
theorem aiE (s:Sc) (o:Ot) (hs:s.length<1000000000000) (ht:∀t∈s,t.cols.length<1000000000000) (hr:∀t∈s,PF Tryz.prog 105 [.seq (t.cols.map Co.cells), .seq (o.row.map Vl.cells)] (PV.val (Value.int .i64 (eM t o.row)))):PF Tryz.prog 100 [.agg (scC s), .agg o.cells] (PV.val (Value.int .i64 (fX s o))):=by
 have w1:=dU o.kind 1 8
 have hsl:(s.map Tb.cells).length=s.length:=zql _
 have w2:=dU o.table 0 (((s.map Tb.cells).length:Nat)-1)
 unfold T.withinB at w1 w2
 unfold fX
 by_cases h0:o.kind<1\/o.kind>8
 ·rw [if_pos h0]
  have e:(decide (o.kind>=1)&&decide (o.kind<=8))=false:=by rw [<-Bool.not_eq_true];simp;omega
  rw [e] at w1
  refine aG aF Tryz.func100 (by kernel_rfl) rfl rfl rfl rfl (λst=> ?_)
  (try apply wO pk;rfl);(repeat' first|show All _;constructor|show Imp _ _;constructor|apply wC pk;rfl;rfl|apply wE pk;rfl;rfl|refine aA rfl ?_ ?_<;>intro h<;>(try simp at h)<;>try omega|(refine aC ?_;refine ⟨_,_,_,rfl,zwr _,zsr _, ?_,rfl⟩;try rfl)|(apply aH;rfl;rfl;rfl;(intro _;apply w1<;>first|assumption|omega);rotate_left;rfl;rfl))
 rw [if_neg h0]
 have e:(decide (o.kind>=1)&&decide (o.kind<=8))=true:=by simp;omega
 rw [e] at w1
 by_cases h1:o.table<0\/o.table>=s.length
 ·rw [if_pos h1]
  have e:(decide (o.table>=0)&&decide (o.table<=((s.map Tb.cells).length:Int)-1))=false:=by rw [<-Bool.not_eq_true,hsl];simp;omega
  rw [e] at w2
  refine aG aF Tryz.func100 (by kernel_rfl) rfl rfl rfl rfl (λst=> ?_)
  (try apply wO pk;rfl);(repeat' first|show All _;constructor|show Imp _ _;constructor|apply wC pk;rfl;rfl|apply wE pk;rfl;rfl|refine aA rfl ?_ ?_<;>intro h<;>(try simp at h)<;>try omega|(refine aC ?_;refine ⟨_,_,_,rfl,zwr _,zsr _, ?_,rfl⟩;try rfl)|(apply aH;rfl;rfl;rfl;(intro _;(first|apply w1|apply w2)<;>first|assumption|omega);rotate_left;rfl;rfl)|intros;(try simp only [zql]);omega)
 rw [if_neg h1]
 have e:(decide (o.table>=0)&&decide (o.table<=((s.map Tb.cells).length:Int)-1))=true:=by rw [hsl];simp;omega
 rw [e] at w2
 obtain ⟨k,hk⟩:∃k:Nat,o.table=k:=⟨o.table.toNat,by omega⟩
 have hkl:k<s.length:=by omega
 have hm:=zgm hkl
 rw [hk,Int.toNat_natCast,getElem!_pos s k hkl]
 have hi:=agV s[k] o (hr _ hm)
 by_cases h2:o.kind=1
 ·rw [if_pos h2]
  refine aG aF Tryz.func100 (by kernel_rfl) rfl rfl rfl rfl (λst=> ?_)
  (try apply wO pk;rfl);(repeat' first|show All _;constructor|show Imp _ _;constructor|apply wC pk;rfl;rfl|apply wE pk;rfl;rfl|apply wD pk [] [];kernel_rfl;rfl;rfl|refine aA rfl ?_ ?_<;>intro h<;>(try simp at h)<;>try omega|(refine aC ?_;refine ⟨_,_,_,rfl,zwr _,zsr _, ?_,rfl⟩;try rfl)|(apply aH;rfl;rfl;rfl;(intro _;(first|apply w1|apply w2|apply hi)<;>first|assumption|omega);rotate_left;rfl;rfl)|apply aN pk;(iterate 6 rfl);rotate_left;rfl;(intro hw;exact hk);(intro hw;apply aI<;>omega);(intro _;rfl);rfl|intros;(try simp only [zql]);omega)
 rw [if_neg h2]
 have hkey:=mN o.key
 generalize auI o.key=K at*
 by_cases h3:o.row.length>0\/K=false
 ·rw [if_pos h3]
  refine aG aF Tryz.func100 (by kernel_rfl) rfl rfl rfl rfl (λst=> ?_)
  (try apply wO pk;rfl);(repeat' first|show All _;constructor|show Imp _ _;constructor|show ImpX _ _ _ _;constructor|apply wC pk;rfl;rfl|apply wE pk;rfl;rfl|apply wD pk [] [];kernel_rfl;rfl;rfl|refine aA rfl ?_ ?_<;>intro h<;>(try simp at h)<;>try omega|(refine aC ?_;refine ⟨_,_,_,rfl,zwr _,zsr _, ?_,rfl⟩;try rfl)|(apply aH;rfl;rfl;rfl;(intro _;(first|apply w1|apply w2|apply hkey)<;>first|assumption|omega);rotate_left;rfl;rfl)|apply aN pk;(iterate 6 rfl);rotate_left;rfl;(intro hw;exact hk);(intro hw;apply aI<;>omega);(intro _;rfl);rfl|intros;(try simp only [zql]);omega|(exfalso;grind))
 rw [if_neg h3]
 by_cases h8:o.kind≠8
 ·rw [if_pos h8]
  have hc:=anE s[k] o (ht _ hm) (by omega)
  refine aG aF Tryz.func100 (by kernel_rfl) rfl rfl rfl rfl (λst=> ?_)
  (try apply wO pk;rfl);(repeat' first|show All _;constructor|show Imp _ _;constructor|show ImpX _ _ _ _;constructor|apply wC pk;rfl;rfl|apply wE pk;rfl;rfl|apply wD pk [] [];kernel_rfl;rfl;rfl|refine aA rfl ?_ ?_<;>intro h<;>(try simp at h)<;>try omega|(refine aC ?_;refine ⟨_,_,_,rfl,zwr _,zsr _, ?_,rfl⟩;try rfl)|(apply aH;rfl;rfl;rfl;(intro _;(first|apply w1|apply w2|apply hkey|apply hc)<;>first|assumption|omega);rotate_left;rfl;rfl)|apply aN pk;(iterate 6 rfl);rotate_left;rfl;(intro hw;exact hk);(intro hw;apply aI<;>omega);(intro _;rfl);rfl|intros;(try simp only [zql]);omega|(exfalso;grind))
 rw [if_neg h8]
 have hb:=zT o
 cases hB:rH o with
 |false=>
  rw [if_pos rfl]
  rw [hB] at hb
  refine aG aF Tryz.func100 (by kernel_rfl) rfl rfl rfl rfl (λst=> ?_)
  (try apply wO pk;rfl);(repeat' first|show All _;constructor|show Imp _ _;constructor|show ImpX _ _ _ _;constructor|apply wC pk;rfl;rfl|apply wE pk;rfl;rfl|refine aA rfl ?_ ?_<;>intro h<;>(try simp at h)<;>try omega|(refine aC ?_;refine ⟨_,_,_,rfl,zwr _,zsr _, ?_,rfl⟩;try rfl)|(apply aH;rfl;rfl;rfl;(intro _;(first|apply w1|apply w2|apply hkey|apply hb)<;>first|assumption|omega);rotate_left;rfl;rfl)|intros;(try simp only [zql]);omega)
 |true=>
  rw [if_neg (by simp)]
  rw [hB] at hb
  refine aG aF Tryz.func100 (by kernel_rfl) rfl rfl rfl rfl (λst=> ?_)
  (try apply wO pk;rfl);(repeat' first|show All _;constructor|show Imp _ _;constructor|show ImpX _ _ _ _;constructor|apply wC pk;rfl;rfl|apply wE pk;rfl;rfl|refine aA rfl ?_ ?_<;>intro h<;>(try simp at h)<;>try omega|(refine aC ?_;refine ⟨_,_,_,rfl,zwr _,zsr _, ?_,rfl⟩;try rfl)|(apply aH;rfl;rfl;rfl;(intro _;(first|apply w1|apply w2|apply hkey|apply hb)<;>first|assumption|omega);rotate_left;rfl;rfl)|intros;(try simp only [zql]);omega|(exfalso;grind))
theorem aC3 {α:Type} (f:α->Bool) (l:List α):decide (cR f l>=0)=l.any f:=by
 unfold cR
 cases h:l.findIdx? f with
 |none=>
  have:=List.findIdx?_eq_none_iff.1 h
  rw [Bool.eq_iff_iff,List.any_eq_true]
  simp only [zde]
  constructor
  ·intro q;omega
  ·rintro ⟨y,hy,q⟩
   have:=this y hy
   rw [q] at this;cases this
 |some k=>
  obtain ⟨q1,q2,_⟩:=List.findIdx?_eq_some_iff_getElem.1 h
  rw [Bool.eq_iff_iff,List.any_eq_true]
  constructor
  ·exact λ_=>⟨_,zgm q1,q2⟩
  ·intro _;simp
theorem auY (fid:FuncId) (caps:List PV) (f:Int->Bool) (l:List Int) (hl:l.length<4611686018427387904) (hf:∀p,PF Tryz.prog fid ([(PV.val (Value.int .i64 (p)))]++caps) (PV.val (Value.bool (f p)))):PF Tryz.prog 302 [.seq (l.map I1), .fn fid caps] (PV.val (Value.int .i64 (cR f l))):=by
 refine aG aF Tryz.func302 (by kernel_rfl) rfl rfl rfl rfl (λst=> ?_)
 (try apply wO pk;rfl);(repeat' (show All _;constructor))
 refine aK (X:={x:Nat//x<=l.length/\∀j (h:j<x) (h2:j<l.length),f l[j]=false}) (λi=>(((((St.nil 19 st).pv 0 (.seq (l.map I1))).pv 1 (.fn fid caps)).pv 7 ((PV.val (Value.int .i64 ((((l.map I1)).length:Nat)))))).pv 8 ((PV.val (Value.int .i64 ((i.1:Nat))))))) (λi=>l.length-i.1) ⟨0,by omega,by omega⟩ ?_ (λi=> ?_)
 ·((repeat refine Sub.pv ?_ rfl);exact Sub.nil _ _ _ (zsr _) rfl)
 obtain ⟨i,hi,hinv⟩:=i
 dsimp only
 (try apply wO pk;rfl);(repeat' first|show All _;constructor|show Imp _ _;constructor|apply wC pk;rfl;rfl|apply wE pk;rfl;rfl|refine aA rfl ?_ ?_<;>intro h<;>(try simp at h)<;>try omega|(refine aC ?_;refine ⟨_,_,_,rfl,zwr _,zsr _, ?_,rfl⟩;try first|rfl|(first|unfold cR;rw [nJ ‹_› ‹_› hinv];done|unfold cR;rw [mW ‹_› hinv]);done)|(apply aH;rfl;rfl;rfl;(intro _;apply hf<;>first|assumption|omega);rotate_left;rfl;rfl)|apply aN pk;(iterate 6 rfl);rotate_left;rfl;(intro hw;rfl);(intro hw;apply aI<;>omega);(intro _;rfl);rfl|refine ⟨⟨i+1,by omega,λj h1 h2=>by rcases Nat.lt_succ_iff_lt_or_eq.1 h1 with q|q;exact hinv j q h2;subst q;assumption⟩, ?_,by simp only;omega⟩;((repeat refine Sub.pv ?_ rfl);exact Sub.nil _ _ _ (zsr _) rfl)|intros;(try simp only [zql]);omega)
theorem auJ (n:Int):PF Tryz.prog 227 [(PV.val (Value.int .i64 (n)))] (PV.val (Value.bool (!okV n))):=by
 have e:(!okV n)=(decide (n<0)||decide (n>1048576)):=by unfold okV;rw [Bool.eq_iff_iff];simp<;>omega
 rw [e]
 refine aG aF Tryz.func227 (by kernel_rfl) rfl rfl rfl rfl (λst=> ?_)
 (try apply wO pk;rfl);(repeat' first|show All _;constructor|show Imp _ _;constructor|show ImpX _ _ _ _;constructor|(refine aC ?_;refine ⟨_,_,_,rfl,zwr _,zsr _, ?_,rfl⟩;try rfl))
theorem agO (v:List Int) (hl:v.length<1000000000000):PF Tryz.prog 149 [.seq (v.map I1)] (PV.val (Value.bool (ayZ v))):=by
 have hx:=auY 227 [] (λn=> !okV n) v (by omega) auJ
 have hc:PF Tryz.prog 228 [.seq (v.map I1), .fn 227 []] (PV.val (Value.bool (v.any λn=> !okV n))):=by
  rw [<-aC3]
  generalize cR (λn=> !okV n) v=X at*
  refine aG aF Tryz.func228 (by kernel_rfl) rfl rfl rfl rfl (λst=> ?_)
  (try apply wO pk;rfl);(repeat' first|show All _;constructor|show Imp _ _;constructor|apply wE pk;rfl;rfl|(refine aC ?_;refine ⟨_,_,_,rfl,zwr _,zsr _, ?_,rfl⟩;try rfl)|(apply aH;rfl;rfl;rfl;(intro _;apply hx<;>first|assumption|omega);rotate_left;rfl;rfl))
 have e:ayZ v=(decide ((v.length:Int)<=64)&& !(v.any λn=> !okV n)):=by
  unfold ayZ
  rw [Bool.eq_iff_iff]
  simp
  omega
 rw [e]
 generalize (v.any λn=> !okV n)=A at*
 refine aG aF Tryz.func149 (by kernel_rfl) rfl rfl rfl rfl (λst=> ?_)
 (try apply wO pk;rfl);(repeat' first|show All _;constructor|show Imp _ _;constructor|show ImpX _ _ _ _;constructor|apply wE pk;rfl;rfl|(refine aC ?_;refine ⟨_,_,_,rfl,zwr _,zsr _, ?_,rfl⟩;try first|rfl|(simp only [zql];done);done)|(apply aH;rfl;rfl;rfl;(intro _;apply hc<;>first|assumption|omega);rotate_left;rfl;rfl))
theorem ayI (v:List Int) (d:Int) (hl:v.length<1000000000000):PF Tryz.prog 368 [.seq (v.map I1),(PV.val (Value.int .i64 (d)))] (PV.val (Value.int .i64 (ofV v d))):=by
 unfold ofV
 by_cases h:d<1\/d>v.length
 ·rw [if_pos h]
  refine aG aF Tryz.func368 (by kernel_rfl) rfl rfl rfl rfl (λst=> ?_)
  (try apply wO pk;rfl);(repeat' first|show All _;constructor|show Imp _ _;constructor|show ImpX _ _ _ _;constructor|apply wC pk;rfl;rfl|refine aA rfl ?_ ?_<;>intro h<;>(try simp at h)<;>try omega|(refine aC ?_;refine ⟨_,_,_,rfl,zwr _,zsr _, ?_,rfl⟩;try rfl))
 ·rw [if_neg h]
  obtain ⟨k,hk⟩:∃k:Nat,d=k+1:=⟨(d-1).toNat,by omega⟩
  have hkl:k<v.length:=by omega
  have e:(d-1).toNat=k:=by omega
  rw [e,getElem!_pos v k hkl]
  have hd1:d-1=((k:Nat):Int):=by omega
  refine aG aF Tryz.func368 (by kernel_rfl) rfl rfl rfl rfl (λst=> ?_)
  (try apply wO pk;rfl);(repeat' first|show All _;constructor|show Imp _ _;constructor|show ImpX _ _ _ _;constructor|apply wC pk;rfl;rfl|apply wE pk;rfl;rfl|refine aA rfl ?_ ?_<;>intro h<;>(try simp at h)<;>try omega|(refine aC ?_;refine ⟨_,_,_,rfl,zwr _,zsr _, ?_,rfl⟩;try rfl)|apply aN pk;(iterate 6 rfl);rotate_left;rfl;(intro hw;exact hd1);(intro hw;apply aI<;>omega);(intro _;rfl);rfl|intros;(try simp only [zql]);omega)
theorem aeJ (v:List Int) (d:Dt) (hl:v.length<1000000000000):PF Tryz.prog 314 [.seq (v.map I1), .agg d.cells] (PV.val (Value.bool (alN v d))):=by
 have h:=ayI v d.dev hl
 unfold alN
 generalize ofV v d.dev=N at*
 refine aG aF Tryz.func314 (by kernel_rfl) rfl rfl rfl rfl (λst=> ?_)
 (try apply wO pk;rfl);(repeat' first|show All _;constructor|show Imp _ _;constructor|show ImpX _ _ _ _;constructor|apply wE pk;rfl;rfl|apply wD pk [] [];kernel_rfl;rfl;rfl|(refine aC ?_;refine ⟨_,_,_,rfl,zwr _,zsr _, ?_,rfl⟩;try rfl)|(apply aH;rfl;rfl;rfl;(intro _;apply h<;>first|assumption|omega);rotate_left;rfl;rfl))
theorem wkC (n:Int):Wk (.agg [(PV.val (Value.int .i64 (2))),(PV.val (Value.int .i64 (1))),(PV.val (Value.int .i64 (n))), .val (.string e0), .val (.slice none 0 0)]) (.agg (oE n).cells):= .agg (.cons (zwr _) (.cons (zwr _) (.cons (zwr _) (.cons (zwr _) (.cons Wk.nil .nil)))))
def inL (n:Int):Prop:= -4398046511104<=n/\n<=4398046511104
theorem axU {l:List Int} {i:Nat} (h:i<l.length):(l.take (i+1)).sum=(l.take i).sum+l[i]:=by
 rw [List.take_succ_eq_append_getElem h,List.sum_append];simp
theorem aEe {l:List Int} (h:∀n∈l,inL n): -4398046511104*(l.length:Int)<=l.sum/\l.sum<=4398046511104*(l.length:Int):=by
 induction l with
 |nil=>simp
 |cons a l ih=>
  have h1:=h a (by simp)
  have h2:=ih λn hn=>h n (List.mem_cons_of_mem _ hn)
  unfold inL at h1
  rw [List.sum_cons,zlc]
  omega
theorem uI (l:List Int) (hl:l.length<=10) (h:∀n∈l,inL n):PF Tryz.prog 316 [.seq (l.map I1)] (.agg (oE l.sum).cells):=by
 refine aG aF Tryz.func316 (by kernel_rfl) rfl rfl rfl rfl (λst=> ?_)
 focus ((try apply wO pk;rfl);(repeat' (show All _;constructor)))
 refine aK (X:={x:Nat//x<=l.length}) (λi=>((((((St.nil 19 st).var 2 80 ([(PV.val (Value.int .i64 (0))),(PV.val (Value.int .i64 (0))),(PV.val (Value.int .i64 (0))),(PV.val (Value.string (e0))), .val (.slice none 0 0)])).pv 3 ((PV.val (Value.int .i64 ((l.take i.1).sum))))).pv 6 (.seq (l.map I1))).pv 7 ((PV.val (Value.int .i64 ((((l.map I1)).length:Nat)))))).pv 8 ((PV.val (Value.int .i64 ((i.1:Nat))))))) (λi=>l.length-i.1) ⟨0,by omega⟩ ?_ (λi=> ?_)
 ·((repeat (first|refine Sub.pv ?_ rfl|refine Sub.var ?_ rfl rfl));exact Sub.nil _ _ _ (zsr _) rfl)
 obtain ⟨i,hi⟩:=i
 dsimp only
 by_cases hend:l.length<=i
 ·rw [List.take_of_length_le hend]
  (try apply wO pk;rfl);(repeat' first|refine aC ?_;exact ⟨_,_,_,rfl,wkC _,zsr _,rfl,rfl⟩|show All _;constructor|apply wC pk;rfl;rfl|refine aA rfl ?_ ?_<;>intro h<;>(try simp at h)<;>try omega)
 have hil:i<l.length:=by omega
 have hn:=h _ (zgm hil)
 have hs:=aEe (l:=l.take i) λn hn=>h n (List.mem_of_mem_take hn)
 have hti:(l.take i).length=i:=by rw [zlt];omega
 have e:=axU hil
 rw [hti] at hs
 unfold inL at hn
 generalize (l.take i).sum=S at*
 (try apply wO pk;rfl);(repeat' first|show All _;constructor|show Imp _ _;constructor|apply wC pk;rfl;rfl|apply wE pk;rfl;rfl|refine aA rfl ?_ ?_<;>intro h<;>(try simp at h)<;>try omega|apply aN pk;(iterate 6 rfl);rotate_left;rfl;(intro hw;rfl);(intro hw;apply aI<;>omega);(intro _;rfl);rfl|(refine ⟨⟨i+1,by omega⟩, ?_,by simp only;omega⟩;((dsimp only;rw [e]));((repeat (first|refine Sub.pv ?_ rfl|refine Sub.var ?_ rfl rfl));exact Sub.nil _ _ _ (zsr _) rfl))|intros;(try simp only [zql]);omega)
end Go.Proofs.YtloecjjehapblaaGreatDoor
