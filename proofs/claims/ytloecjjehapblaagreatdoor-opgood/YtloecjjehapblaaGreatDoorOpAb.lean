import Derived.Test.YtloecjjehapblaaGreatDoorOpAa
import Derived.Test.YtloecjjehapblaaGreatDoorAbsG
import Derived.Shelf.Strings.SlTrimAscii
import Derived.Shelf.Sort.Plain
import Derived.Shelf.SlSortCmp.NoneTotal
import Derived.Shelf.Slices.In.SortNone
import Derived.Test.YtloecjjehapblaaGreatDoorProg
import Derived.Test.YtloecjjehapblaaGreatDoorAbsI
set_option linter.unusedSimpArgs false
set_option linter.unusedVariables false
namespace Go.Proofs.YtloecjjehapblaaGreatDoor
open Go Go.Abs
attribute [local irreducible] Ev PWp
set_option maxRecDepth 10000
set_option maxHeartbeats 4000000
theorem azB (a:Int):PF Tryz.prog 119 [(PV.val (Value.int .i64 (a)))] (PV.val (Value.bool (false))):=by
 refine aG aF Tryz.func119 (by kernel_rfl) rfl rfl rfl rfl (λst=> ?_)
 (try apply wO pk;rfl);(repeat' first|show All _;constructor|(refine aC ?_;refine ⟨_,_,_,rfl,zwr _,zsr _, ?_,rfl⟩;try first|rfl|simp;done))
def gZ (a b:Int):Int:=if a<b then-1 else if a>b then 1 else 0
theorem jB (a b:Int):PF Tryz.prog 75 [(PV.val (Value.int .i64 (a))),(PV.val (Value.int .i64 (b)))] (PV.val (Value.int .i64 (gZ a b))):=by
 refine aG aF Tryz.func75 (by kernel_rfl) rfl rfl rfl rfl (λst=> ?_)
 (try apply wO pk;rfl);(repeat' first|show All _;constructor|show Imp _ _;constructor|apply wC pk;rfl;rfl|apply wE pk;rfl;rfl|refine aA rfl ?_ ?_<;>intro h<;>(try simp at h)<;>try omega|(refine aC ?_;refine ⟨_,_,_,rfl,zwr _,zsr _, ?_,rfl⟩;try first|rfl|(first|simp_all [gZ];done|obtain rfl:a=b:=(by omega);simp [gZ]);done)|(apply aH;rfl;rfl;rfl;(intro _;apply azB<;>first|assumption|omega);rotate_left;rfl;rfl))
def orI :List Int->Int
 |[]=>0
 |x::l=>if x=0 then orI l else x
theorem akP {l:List Int} {i:Nat} (h:i<l.length):orI (l.drop i)=if l[i]=0 then orI (l.drop (i+1)) else l[i]:=by
 rw [List.drop_eq_getElem_cons h,orI]
theorem afS (l:List Int) (hl:l.length<4611686018427387904):PF Tryz.prog 74 [.seq (l.map I1)] (PV.val (Value.int .i64 (orI l))):=by
 refine aG aF Tryz.func74 (by kernel_rfl) rfl rfl rfl rfl (λst=> ?_)
 (try apply wO pk;rfl);(repeat' (show All _;constructor))
 refine aK (X:={x:Nat//x<=l.length/\orI (l.drop x)=orI l}) (λi=>(((((St.nil 18 st).pv 3 ((PV.val (Value.int .i64 (0))))).pv 6 (.seq (l.map I1))).pv 7 ((PV.val (Value.int .i64 ((((l.map I1)).length:Nat)))))).pv 8 ((PV.val (Value.int .i64 ((i.1:Nat))))))) (λi=>l.length-i.1) ⟨0,by omega,by simp⟩ ?_ (λi=> ?_)
 ·((repeat refine Sub.pv ?_ rfl);exact Sub.nil _ _ _ (zsr _) rfl)
 obtain ⟨i,h1,hinv⟩:=i
 dsimp only
 (try apply wO pk;rfl);(repeat' first|show All _;constructor|show Imp _ _;constructor|apply wC pk;rfl;rfl|apply wE pk;rfl;rfl|refine aA rfl ?_ ?_<;>intro h<;>(try simp at h)<;>try omega|(refine aC ?_;refine ⟨_,_,_,rfl,zwr _,zsr _, ?_,rfl⟩;try first|rfl|(rw [<-hinv];(first|rw [akP (by omega),if_neg ‹_›];done|rw [List.drop_eq_nil_of_le (show l.length<=i by omega)];rfl));done)|apply aN pk;(iterate 6 rfl);rotate_left;rfl;(intro hw;rfl);(intro hw;apply aI<;>omega);(intro _;rfl);rfl|refine ⟨⟨i+1,by omega,by rw [<-hinv,akP (i:=i) (by omega),if_pos ‹_›]⟩, ?_,by simp only;omega⟩;((repeat refine Sub.pv ?_ rfl);exact Sub.nil _ _ _ (zsr _) rfl)|intros;(try simp only [zql]);omega)
def byD (a b:Dt):Int:=orI [gZ a.dev b.dev,gZ a.seq b.seq]
theorem aiX (a b:Dt):PF Tryz.prog 104 [.agg a.cells, .agg b.cells] (PV.val (Value.int .i64 (byD a b))):=by
 have ho:=afS [gZ a.dev b.dev,gZ a.seq b.seq] (by simp)
 refine aG aF Tryz.func104 (by kernel_rfl) rfl rfl rfl rfl (λst=> ?_)
 (try apply wO pk;rfl);(repeat' first|show All _;constructor|show Imp _ _;constructor|apply wE pk;rfl;rfl|apply wD pk [] [];kernel_rfl;rfl;rfl|(refine aC ?_;refine ⟨_,_,_,rfl,zwr _,zsr _, ?_,rfl⟩;try rfl)|(apply aH;rfl;rfl;rfl;(intro _;(first|apply (jB a.dev b.dev)|apply (jB a.seq b.seq)|apply ho)<;>first|assumption|omega);rotate_left;rfl;rfl))
def bG (a b:Dt):Bool:=decide (a.dev>b.dev)||(decide (a.dev=b.dev)&&decide (a.seq>b.seq))
theorem aqF (a b:Dt):decide (byD a b>0)=bG a b:=by
 unfold byD bG gZ
 simp only [orI]
 rw [Bool.eq_iff_iff]
 simp only [zde,Bool.or_eq_true,zba]
 grind
theorem nJ {α:Type} {f:α->Bool} {l:List α} {i:Nat} (h:i<l.length) (hf:f l[i]=true) (hn:∀j (h:j<i) (h2:j<l.length),f l[j]=false):l.findIdx? f=some i:=
 List.findIdx?_eq_some_iff_getElem.2 ⟨h,hf,λj hj=>by rw [hn j hj (by omega)];simp⟩
theorem mW {α:Type} {f:α->Bool} {l:List α} {i:Nat} (h:l.length<=i) (hn:∀j (h:j<i) (h2:j<l.length),f l[j]=false):l.findIdx? f=none:=
 List.findIdx?_eq_none_iff.2 λx hx=>by
  obtain ⟨j,hj,rfl⟩:=List.getElem_of_mem hx
  exact hn j (by omega) hj
def cR {α:Type} (f:α->Bool) (l:List α):Int:=match l.findIdx? f with|some k=>((k:Nat):Int)|none=> -1
theorem pH {α:Type} (f:α->Bool) (l:List α):decide (cR f l>=0)=l.any f:=by
 unfold cR
 cases h:l.findIdx? f with
 |none=>
  rw [List.findIdx?_eq_none_iff] at h
  have:l.any f=false:=by rw [<-Bool.not_eq_true,List.any_eq_true];rintro ⟨x,hx,hf⟩;rw [h x hx] at hf;cases hf
  rw [this];rfl
 |some k=>
  obtain ⟨hk,hf,_⟩:=List.findIdx?_eq_some_iff_getElem.1 h
  have:l.any f=true:=List.any_eq_true.2 ⟨_,zgm hk,hf⟩
  rw [this]
  show decide (((k:Nat):Int)>=0)=true
  rw [zde];omega
theorem auF (fid:FuncId) (caps:List PV) (f:Dt->Bool) (l:List Dt) (hl:l.length<4611686018427387904) (hf:∀p,PF Tryz.prog fid ([.agg p.cells]++caps) (PV.val (Value.bool (f p)))):PF Tryz.prog 94 [.seq (l.map Dt.cells), .fn fid caps] (PV.val (Value.int .i64 (cR f l))):=by
 refine aG aF Tryz.func94 (by kernel_rfl) rfl rfl rfl rfl (λst=> ?_)
 (try apply wO pk;rfl);(repeat' first|show All _;constructor|show Imp _ _;constructor|show ImpX _ _ _ _;constructor|apply wC pk;rfl;rfl|apply wE pk;rfl;rfl|apply wX pk;rfl|apply wN pk;rfl|apply wD pk [] [];kernel_rfl;rfl;rfl|apply dL;simp only [zqt,zqf]|refine aA rfl ?_ ?_<;>intro h<;>(try simp at h)<;>try omega|(refine aC ?_;refine ⟨_,_,_,rfl,zwr _,zsr _, ?_,rfl⟩;try rfl)|intros;(try simp only [zql]);omega)
 refine aK (X:={x:Nat//x<=l.length/\∀j (h:j<x) (h2:j<l.length),f l[j]=false}) (λi=>(((((St.nil 19 st).pv 0 (.seq (l.map Dt.cells))).pv 1 (.fn fid caps)).pv 7 ((PV.val (Value.int .i64 ((((l.map Dt.cells)).length:Nat)))))).pv 8 ((PV.val (Value.int .i64 ((i.1:Nat))))))) (λi=>l.length-i.1) ⟨0,by omega,by omega⟩ ?_ (λi=> ?_)
 ·((repeat (first|refine Sub.pv ?_ rfl|refine Sub.var ?_ rfl rfl));exact Sub.nil _ _ _ (zsr _) rfl)
 obtain ⟨i,hi,hinv⟩:=i
 dsimp only
 (try apply wO pk;rfl);(repeat' first|show All _;constructor|show Imp _ _;constructor|show ImpX _ _ _ _;constructor|apply wC pk;rfl;rfl|apply wE pk;rfl;rfl|apply wX pk;rfl|apply wN pk;rfl|apply wD pk [] [];kernel_rfl;rfl;rfl|apply dL;simp only [zqt,zqf]|refine aA rfl ?_ ?_<;>intro h<;>(try simp at h)<;>try omega|(refine aC ?_;refine ⟨_,_,_,rfl,zwr _,zsr _, ?_,rfl⟩;try first|rfl|(first|unfold cR;rw [nJ ‹_› ‹_› hinv];done|unfold cR;rw [mW ‹_› hinv]);done)|(apply aH;rfl;rfl;rfl;(intro _;apply hf<;>first|assumption|omega);rotate_left;rfl;rfl)|apply aN pk;(iterate 6 rfl);rotate_left;rfl;(intro hw;rfl);(intro hw;apply aI<;>omega);(intro _;rfl);rfl|(refine ⟨⟨i+1,by omega,λj h1 h2=>by rcases Nat.lt_succ_iff_lt_or_eq.1 h1 with q|q;exact hinv j q h2;subst q;assumption⟩, ?_,by simp only;omega⟩;((repeat (first|refine Sub.pv ?_ rfl|refine Sub.var ?_ rfl rfl));exact Sub.nil _ _ _ (zsr _) rfl))|intros;(try simp only [zql]);omega)
theorem adJ (fid:FuncId) (caps:List PV) (f:Ln->Bool) (l:List Ln) (hl:l.length<4611686018427387904) (hf:∀p,PF Tryz.prog fid ([.agg p.cells]++caps) (PV.val (Value.bool (f p)))):PF Tryz.prog 108 [.seq (l.map Ln.cells), .fn fid caps] (PV.val (Value.int .i64 (cR f l))):=by
 refine aG aF Tryz.func108 (by kernel_rfl) rfl rfl rfl rfl (λst=> ?_)
 (try apply wO pk;rfl);(repeat' (show All _;constructor))
 refine aK (X:={x:Nat//x<=l.length/\∀j (h:j<x) (h2:j<l.length),f l[j]=false}) (λi=>(((((St.nil 19 st).pv 0 (.seq (l.map Ln.cells))).pv 1 (.fn fid caps)).pv 7 ((PV.val (Value.int .i64 ((((l.map Ln.cells)).length:Nat)))))).pv 8 ((PV.val (Value.int .i64 ((i.1:Nat))))))) (λi=>l.length-i.1) ⟨0,by omega,by omega⟩ ?_ (λi=> ?_)
 ·((repeat refine Sub.pv ?_ rfl);exact Sub.nil _ _ _ (zsr _) rfl)
 obtain ⟨i,hi,hinv⟩:=i
 dsimp only
 (try apply wO pk;rfl);(repeat' first|show All _;constructor|show Imp _ _;constructor|apply wC pk;rfl;rfl|apply wE pk;rfl;rfl|refine aA rfl ?_ ?_<;>intro h<;>(try simp at h)<;>try omega|(refine aC ?_;refine ⟨_,_,_,rfl,zwr _,zsr _, ?_,rfl⟩;try first|rfl|(first|unfold cR;rw [nJ ‹_› ‹_› hinv];done|unfold cR;rw [mW ‹_› hinv]);done)|(apply aH;rfl;rfl;rfl;(intro _;apply hf<;>first|assumption|omega);rotate_left;rfl;rfl)|apply aN pk;(iterate 6 rfl);rotate_left;rfl;(intro hw;rfl);(intro hw;apply aI<;>omega);(intro _;rfl);rfl|refine ⟨⟨i+1,by omega,λj h1 h2=>by rcases Nat.lt_succ_iff_lt_or_eq.1 h1 with q|q;exact hinv j q h2;subst q;assumption⟩, ?_,by simp only;omega⟩;((repeat refine Sub.pv ?_ rfl);exact Sub.nil _ _ _ (zsr _) rfl)|intros;(try simp only [zql]);omega)
theorem apL (l:List Dt) (x:Dt) (hl:l.length<4611686018427387904):PF Tryz.prog 95 [.seq (l.map Dt.cells), .agg x.cells] (PV.val (Value.int .i64 (cR (λy=>decide (x=y)) l))):=by
 refine aG aF Tryz.func95 (by kernel_rfl) rfl rfl rfl rfl (λst=> ?_)
 (try apply wO pk;rfl);(repeat' first|show All _;constructor|show Imp _ _;constructor|show ImpX _ _ _ _;constructor|apply wC pk;rfl;rfl|apply wE pk;rfl;rfl|apply wX pk;rfl|apply wN pk;rfl|apply wD pk [] [];kernel_rfl;rfl;rfl|apply dL;simp only [zqt,zqf]|refine aA rfl ?_ ?_<;>intro h<;>(try simp at h)<;>try omega|(refine aC ?_;refine ⟨_,_,_,rfl,zwr _,zsr _, ?_,rfl⟩;try rfl)|intros;(try simp only [zql]);omega)
 refine aK (X:={y:Nat//y<=l.length/\∀j (h:j<y) (h2:j<l.length),decide (x=l[j])=false}) (λi=>(((((St.nil 19 st).pv 0 (.seq (l.map Dt.cells))).var 3 59 (x.cells)).pv 7 ((PV.val (Value.int .i64 ((((l.map Dt.cells)).length:Nat)))))).pv 8 ((PV.val (Value.int .i64 ((i.1:Nat))))))) (λi=>l.length-i.1) ⟨0,by omega,by omega⟩ ?_ (λi=> ?_)
 ·((repeat (first|refine Sub.pv ?_ rfl|refine Sub.var ?_ rfl rfl));exact Sub.nil _ _ _ (zsr _) rfl)
 obtain ⟨i,h1,hinv⟩:=i
 dsimp only
 (try apply wO pk;rfl);(repeat' first|show All _;constructor|show Imp _ _;constructor|show ImpX _ _ _ _;constructor|apply wC pk;rfl;rfl|apply wE pk;rfl;rfl|apply wX pk;rfl|apply wN pk;rfl|apply wD pk [] [];kernel_rfl;rfl;rfl|apply dL;simp only [zqt,zqf]|refine aA rfl ?_ ?_<;>intro h<;>(try simp at h)<;>try omega|(refine aC ?_;refine ⟨_,_,_,rfl,zwr _,zsr _, ?_,rfl⟩;try first|rfl|(first|unfold cR;rw [nJ (f:=λy=>decide (x=y)) ‹_› (by simp_all [Dt.ext_iff]) hinv];done|(unfold cR;rw [mW (f:=λy=>decide (x=y)) ‹_› hinv]));done)|apply aN pk;(iterate 6 rfl);rotate_left;rfl;(intro hw;rfl);(intro hw;apply aI<;>omega);(intro _;rfl);rfl|(refine ⟨⟨i+1,by omega,λj h1 h2=>by rcases Nat.lt_succ_iff_lt_or_eq.1 h1 with q|q;exact hinv j q h2;subst q;exact decide_eq_false (by rw [Dt.ext_iff];simp_all)⟩, ?_,by simp only;omega⟩;((repeat (first|refine Sub.pv ?_ rfl|refine Sub.var ?_ rfl rfl));exact Sub.nil _ _ _ (zsr _) rfl))|intros;(try simp only [zql]);omega)
theorem abW (l:List Dt) (x:Dt) (hl:l.length<4611686018427387904):PF Tryz.prog 49 [.seq (l.map Dt.cells), .agg x.cells] (PV.val (Value.bool (l.any λy=>decide (x=y)))):=by
 refine aG aF Tryz.func49 (by kernel_rfl) rfl rfl rfl rfl (λst=> ?_)
 (try apply wO pk;rfl);(repeat' first|show All _;constructor|show Imp _ _;constructor|show ImpX _ _ _ _;constructor|apply wC pk;rfl;rfl|apply wE pk;rfl;rfl|apply wX pk;rfl|apply wN pk;rfl|apply wD pk [] [];kernel_rfl;rfl;rfl|apply dL;simp only [zqt,zqf]|refine aA rfl ?_ ?_<;>intro h<;>(try simp at h)<;>try omega|(refine aC ?_;refine ⟨_,_,_,rfl,zwr _,zsr _, ?_,rfl⟩;try first|rfl|(rw [pH]);done)|(apply aH;rfl;rfl;rfl;(intro _;apply (apL l x hl)<;>first|assumption|omega);rotate_left;rfl;rfl)|intros;(try simp only [zql]);omega)
end Go.Proofs.YtloecjjehapblaaGreatDoor
namespace Go.Proofs.YtloecjjehapblaaGreatDoor
open Go Go.Proofs Go.Shelf
def aG6 :Ren:=⟨λx=>match x with
 |189=>183
 |125=>118
 |257=>281
 |128=>196
 |129=>197
 |294=>351
 |295=>352
 |296=>353
 |297=>354
 |298=>355
 |299=>356
 |216=>357
 |300=>358
 |301=>359
 |328=>386
 |329=>290
 |330=>291
 |331=>387
 |332=>388
 |215=>119
 |343=>408
 |n=>n,λx=>match x with
 |28=>31
 |3=>3
 |46=>200
 |0=>0
 |51=>275
 |53=>277
 |4=>4
 |183=>269
 |182=>268
 |131=>132
 |5=>5
 |9=>9
 |218=>359
 |222=>363
 |228=>418
 |229=>419
 |n=>n,λx=>x⟩
theorem aHg :Lays.n189 Tryz.prog aG6 where
 mixed:=rfl
 f125:=Tryz.func118.trans (by kernel_rfl)
 f128:=Tryz.func196.trans (by kernel_rfl)
 f129:=Tryz.func197.trans (by kernel_rfl)
 f189:=Tryz.func183.trans (by kernel_rfl)
 f215:=Tryz.func119.trans (by kernel_rfl)
 f216:=Tryz.func357.trans (by kernel_rfl)
 f257:=Tryz.func281.trans (by kernel_rfl)
 f294:=Tryz.func351.trans (by kernel_rfl)
 f295:=Tryz.func352.trans (by kernel_rfl)
 f296:=Tryz.func353.trans (by kernel_rfl)
 f297:=Tryz.func354.trans (by kernel_rfl)
 f298:=Tryz.func355.trans (by kernel_rfl)
 f299:=Tryz.func356.trans (by kernel_rfl)
 f300:=Tryz.func358.trans (by kernel_rfl)
 f301:=Tryz.func359.trans (by kernel_rfl)
 f328:=Tryz.func386.trans (by kernel_rfl)
 f329:=Tryz.func290.trans (by kernel_rfl)
 f330:=Tryz.func291.trans (by kernel_rfl)
 f331:=Tryz.func387.trans (by kernel_rfl)
 f332:=Tryz.func388.trans (by kernel_rfl)
 f343:=Tryz.func408.trans (by kernel_rfl)
 t0:=Tryz.underlying0
 a0:=Tryz.isAgg0
 z0:=Tryz.sizeOf0
 v0:=Tryz.zeroValue0
 t3:=Tryz.underlying3
 a3:=Tryz.isAgg3
 z3:=Tryz.sizeOf3
 v3:=Tryz.zeroValue3
 t4:=Tryz.underlying4
 a4:=Tryz.isAgg4
 z4:=Tryz.sizeOf4
 v4:=Tryz.zeroValue4
 t5:=Tryz.underlying5
 a5:=Tryz.isAgg5
 z5:=Tryz.sizeOf5
 v5:=Tryz.zeroValue5
 t9:=Tryz.underlying9
 a9:=Tryz.isAgg9
 z9:=Tryz.sizeOf9
 v9:=Tryz.zeroValue9
 t28:=Tryz.underlying31
 a28:=Tryz.isAgg31
 z28:=Tryz.sizeOf31
 v28:=Tryz.zeroValue31
 t46:=Tryz.underlying200
 a46:=Tryz.isAgg200
 z46:=Tryz.sizeOf200
 v46:=Tryz.zeroValue200
 t51:=Tryz.underlying275
 a51:=Tryz.isAgg275
 z51:=Tryz.sizeOf275
 v51:=Tryz.zeroValue275
 t53:=Tryz.underlying277
 a53:=Tryz.isAgg277
 z53:=Tryz.sizeOf277
 v53:=Tryz.zeroValue277
 t131:=Tryz.underlying132
 a131:=Tryz.isAgg132
 z131:=Tryz.sizeOf132
 v131:=Tryz.zeroValue132
 t182:=Tryz.underlying268
 a182:=Tryz.isAgg268
 z182:=Tryz.sizeOf268
 v182:=Tryz.zeroValue268
 t183:=Tryz.underlying269
 a183:=Tryz.isAgg269
 z183:=Tryz.sizeOf269
 v183:=Tryz.zeroValue269
 t218:=Tryz.underlying359
 a218:=Tryz.isAgg359
 z218:=Tryz.sizeOf359
 v218:=Tryz.zeroValue359
 t222:=Tryz.underlying363
 a222:=Tryz.isAgg363
 z222:=Tryz.sizeOf363
 v222:=Tryz.zeroValue363
 t228:=Tryz.underlying418
 a228:=Tryz.isAgg418
 z228:=Tryz.sizeOf418
 v228:=Tryz.zeroValue418
 t229:=Tryz.underlying419
 a229:=Tryz.isAgg419
 z229:=Tryz.sizeOf419
 v229:=Tryz.zeroValue419
def renT :Ren:=⟨λx=>match x with
 |160=>256
 |232=>326
 |231=>325
 |227=>327
 |234=>329
 |233=>328
 |236=>331
 |235=>330
 |228=>375
 |271=>378
 |151=>377
 |197=>376
 |120=>403
 |152=>402
 |260=>401
 |137=>415
 |119=>416
 |224=>406
 |225=>405
 |217=>404
 |266=>417
 |n=>n,λx=>match x with
 |9=>9
 |4=>4
 |3=>3
 |5=>5
 |117=>395
 |116=>394
 |0=>0
 |124=>398
 |21=>21
 |105=>426
 |46=>200
 |119=>450
 |139=>453
 |138=>452
 |n=>n,λx=>match x with
 |3=>1
 |4=>2
 |n=>n⟩
theorem aG1 :Lays.n160 Tryz.prog renT where
 mixed:=rfl
 f119:=Tryz.func416.trans (by kernel_rfl)
 f120:=Tryz.func403.trans (by kernel_rfl)
 f137:=Tryz.func415.trans (by kernel_rfl)
 f151:=Tryz.func377.trans (by kernel_rfl)
 f152:=Tryz.func402.trans (by kernel_rfl)
 f160:=Tryz.func256.trans (by kernel_rfl)
 f197:=Tryz.func376.trans (by kernel_rfl)
 f217:=Tryz.func404.trans (by kernel_rfl)
 f224:=Tryz.func406.trans (by kernel_rfl)
 f225:=Tryz.func405.trans (by kernel_rfl)
 f227:=Tryz.func327.trans (by kernel_rfl)
 f228:=Tryz.func375.trans (by kernel_rfl)
 f231:=Tryz.func325.trans (by kernel_rfl)
 f232:=Tryz.func326.trans (by kernel_rfl)
 f233:=Tryz.func328.trans (by kernel_rfl)
 f234:=Tryz.func329.trans (by kernel_rfl)
 f235:=Tryz.func330.trans (by kernel_rfl)
 f236:=Tryz.func331.trans (by kernel_rfl)
 f260:=Tryz.func401.trans (by kernel_rfl)
 f266:=Tryz.func417.trans (by kernel_rfl)
 f271:=Tryz.func378.trans (by kernel_rfl)
 t0:=Tryz.underlying0
 a0:=Tryz.isAgg0
 z0:=Tryz.sizeOf0
 v0:=Tryz.zeroValue0
 t3:=Tryz.underlying3
 a3:=Tryz.isAgg3
 z3:=Tryz.sizeOf3
 v3:=Tryz.zeroValue3
 t4:=Tryz.underlying4
 a4:=Tryz.isAgg4
 z4:=Tryz.sizeOf4
 v4:=Tryz.zeroValue4
 t5:=Tryz.underlying5
 a5:=Tryz.isAgg5
 z5:=Tryz.sizeOf5
 v5:=Tryz.zeroValue5
 t9:=Tryz.underlying9
 a9:=Tryz.isAgg9
 z9:=Tryz.sizeOf9
 v9:=Tryz.zeroValue9
 t21:=Tryz.underlying21
 a21:=Tryz.isAgg21
 z21:=Tryz.sizeOf21
 v21:=Tryz.zeroValue21
 t46:=Tryz.underlying200
 a46:=Tryz.isAgg200
 z46:=Tryz.sizeOf200
 v46:=Tryz.zeroValue200
 t105:=Tryz.underlying426
 a105:=Tryz.isAgg426
 z105:=Tryz.sizeOf426
 v105:=Tryz.zeroValue426
 t116:=Tryz.underlying394
 a116:=Tryz.isAgg394
 z116:=Tryz.sizeOf394
 t117:=Tryz.underlying395
 a117:=Tryz.isAgg395
 z117:=Tryz.sizeOf395
 v117:=Tryz.zeroValue395
 t119:=Tryz.underlying450
 a119:=Tryz.isAgg450
 z119:=Tryz.sizeOf450
 t124:=Tryz.underlying398
 a124:=Tryz.isAgg398
 z124:=Tryz.sizeOf398
 v124:=Tryz.zeroValue398
 t138:=Tryz.underlying452
 a138:=Tryz.isAgg452
 z138:=Tryz.sizeOf452
 v138:=Tryz.zeroValue452
 t139:=Tryz.underlying453
 a139:=Tryz.isAgg453
 z139:=Tryz.sizeOf453
 v139:=Tryz.zeroValue453
 g3:=by kernel_rfl
 g4:=by kernel_rfl
def aG0 :Ren:=⟨λx=>match x with
 |6=>287
 |15=>118
 |14=>364
 |28=>196
 |29=>197
 |20=>390
 |21=>391
 |22=>392
 |23=>393
 |24=>394
 |25=>395
 |26=>396
 |27=>397
 |46=>411
 |47=>290
 |48=>291
 |49=>412
 |50=>413
 |57=>419
 |n=>n,λx=>match x with
 |22=>78
 |24=>190
 |25=>358
 |3=>3
 |39=>200
 |0=>0
 |53=>275
 |55=>277
 |4=>4
 |46=>269
 |45=>268
 |50=>132
 |5=>5
 |9=>9
 |66=>359
 |70=>363
 |76=>418
 |77=>419
 |n=>n,λx=>x⟩
theorem aHh :SlLaysF0.n6 Tryz.prog aG0 where
  mixed:=rfl
  f6 := ⟨ "slices.SortFunc[[]homestead/api.Part,homestead/api.Part]", by decide, Tryz.func287.trans (by kernel_rfl)⟩
  f14 := ⟨ "slices.pdqsortCmpFunc[homestead/api.Part]", by decide, Tryz.func364.trans (by kernel_rfl)⟩
  f15:=Tryz.func118.trans (by kernel_rfl)
  f20 := ⟨ "slices.insertionSortCmpFunc[homestead/api.Part]", by decide, Tryz.func390.trans (by kernel_rfl)⟩
  f21 := ⟨ "slices.heapSortCmpFunc[homestead/api.Part]", by decide, Tryz.func391.trans (by kernel_rfl)⟩
  f22 := ⟨ "slices.breakPatternsCmpFunc[homestead/api.Part]", by decide, Tryz.func392.trans (by kernel_rfl)⟩
  f23 := ⟨ "slices.choosePivotCmpFunc[homestead/api.Part]", by decide, Tryz.func393.trans (by kernel_rfl)⟩
  f24 := ⟨ "slices.reverseRangeCmpFunc[homestead/api.Part]", by decide, Tryz.func394.trans (by kernel_rfl)⟩
  f25 := ⟨ "slices.partialInsertionSortCmpFunc[homestead/api.Part]", by decide, Tryz.func395.trans (by kernel_rfl)⟩
  f26 := ⟨ "slices.partitionEqualCmpFunc[homestead/api.Part]", by decide, Tryz.func396.trans (by kernel_rfl)⟩
  f27 := ⟨ "slices.partitionCmpFunc[homestead/api.Part]", by decide, Tryz.func397.trans (by kernel_rfl)⟩
  f28:=Tryz.func196.trans (by kernel_rfl)
  f29:=Tryz.func197.trans (by kernel_rfl)
  f46 := ⟨ "slices.siftDownCmpFunc[homestead/api.Part]", by decide, Tryz.func411.trans (by kernel_rfl)⟩
  f47:=Tryz.func290.trans (by kernel_rfl)
  f48:=Tryz.func291.trans (by kernel_rfl)
  f49 := ⟨ "slices.medianAdjacentCmpFunc[homestead/api.Part]", by decide, Tryz.func412.trans (by kernel_rfl)⟩
  f50 := ⟨ "slices.medianCmpFunc[homestead/api.Part]", by decide, Tryz.func413.trans (by kernel_rfl)⟩
  f57 := ⟨ "slices.order2CmpFunc[homestead/api.Part]", by decide, Tryz.func419.trans (by kernel_rfl)⟩
  t0:=Tryz.underlying0
  a0:=Tryz.isAgg0
  z0:=Tryz.sizeOf0
  v0:=Tryz.zeroValue0
  t3:=Tryz.underlying3
  a3:=Tryz.isAgg3
  z3:=Tryz.sizeOf3
  v3:=Tryz.zeroValue3
  t4:=Tryz.underlying4
  a4:=Tryz.isAgg4
  z4:=Tryz.sizeOf4
  v4:=Tryz.zeroValue4
  t5:=Tryz.underlying5
  a5:=Tryz.isAgg5
  z5:=Tryz.sizeOf5
  v5:=Tryz.zeroValue5
  t9:=Tryz.underlying9
  a9:=Tryz.isAgg9
  z9:=Tryz.sizeOf9
  v9:=Tryz.zeroValue9
  t22:=Tryz.underlying78
  a22:=Tryz.isAgg78
  z22:=Tryz.sizeOf78
  v22:=Tryz.zeroValue78
  t25:=Tryz.underlying358
  a25:=Tryz.isAgg358
  z25:=Tryz.sizeOf358
  v25:=Tryz.zeroValue358
  t39:=Tryz.underlying200
  a39:=Tryz.isAgg200
  z39:=Tryz.sizeOf200
  v39:=Tryz.zeroValue200
  t45:=Tryz.underlying268
  a45:=Tryz.isAgg268
  z45:=Tryz.sizeOf268
  v45:=Tryz.zeroValue268
  t46:=Tryz.underlying269
  a46:=Tryz.isAgg269
  z46:=Tryz.sizeOf269
  v46:=Tryz.zeroValue269
  t50:=Tryz.underlying132
  a50:=Tryz.isAgg132
  z50:=Tryz.sizeOf132
  v50:=Tryz.zeroValue132
  t53:=Tryz.underlying275
  a53:=Tryz.isAgg275
  z53:=Tryz.sizeOf275
  v53:=Tryz.zeroValue275
  t55:=Tryz.underlying277
  a55:=Tryz.isAgg277
  z55:=Tryz.sizeOf277
  v55:=Tryz.zeroValue277
  t66:=Tryz.underlying359
  a66:=Tryz.isAgg359
  z66:=Tryz.sizeOf359
  v66:=Tryz.zeroValue359
  t70:=Tryz.underlying363
  a70:=Tryz.isAgg363
  z70:=Tryz.sizeOf363
  v70:=Tryz.zeroValue363
  t76:=Tryz.underlying418
  a76:=Tryz.isAgg418
  z76:=Tryz.sizeOf418
  v76:=Tryz.zeroValue418
  t77:=Tryz.underlying419
  a77:=Tryz.isAgg419
  z77:=Tryz.sizeOf419
  v77:=Tryz.zeroValue419
end Go.Proofs.YtloecjjehapblaaGreatDoor
namespace Go.Proofs.YtloecjjehapblaaGreatDoor
open Go Go.Abs
attribute [local irreducible] Ev PWp
set_option maxRecDepth 10000
set_option maxHeartbeats 4000000
def abc :ByteArray:=⟨#[97,98,99,100,101,102,103,104,105,106,107,108,109,110,111,112,113,114,115,116,117,118,119,120,121,122]⟩
def abc9 :ByteArray:=⟨#[97,98,99,100,101,102,103,104,105,106,107,108,109,110,111,112,113,114,115,116,117,118,119,120,121,122,48,49,50,51,52,53,54,55,56,57,95]⟩
def azR (b:UInt8):Bool:=decide (97<=b.toNat)&&decide (b.toNat<=122)
def alB (b:UInt8):Bool:=(azR b||(decide (48<=b.toNat)&&decide (b.toNat<=57)))||decide (b.toNat=95)
theorem aBi {p:UInt8->Bool} (h:((List.range 256).all λn=>p (UInt8.ofNat n))=true) (b:UInt8):p b=true:=by
 have:=zal.1 h b.toNat (List.mem_range.2 b.toNat_lt)
 simpa using this
theorem asC (b:UInt8):abc9.data.toList.contains b=alB b:=by
 have:=aBi (p:=λb=>abc9.data.toList.contains b==alB b) (by decide+kernel) b
 simpa using this
theorem aB1 (b:UInt8):decide (firstIdx abc b>=0)=azR b:=by
 have:=aBi (p:=λb=>decide (firstIdx abc b>=0)==azR b) (by decide+kernel) b
 simpa using this
theorem zC {α:Type} {p:α->Bool}:∀{l:List α},l.dropWhile p=[]↔∀x∈l,p x=true
 |[]=>by simp
 |a::l=>by
  rw [List.dropWhile_cons]
  cases h:p a with
  |true=>simp [h,zC (l:=l)]
  |false=>simp [h]
theorem aeK {l cs:List UInt8}:Lib.trimS l cs=[]↔∀x∈l,cs.contains x=true:=by
 have drop_mem:∀{m:List UInt8} {p:UInt8->Bool},(∀x∈m,p x=true)↔∀x∈m.dropWhile p,p x=true:=by
  intro m p
  constructor
  ·exact λh x hx=>h x (List.dropWhile_sublist p|>.subset hx)
  ·intro h
   cases e:m.dropWhile p with
   |nil=>exact zC.1 e
   |cons a rs=>
    have h1:=h a (by rw [e];simp)
    have h2:=List.head_dropWhile_not p (l:=m) (by rw [e];simp)
    simp only [e,List.head_cons] at h2
    rw [h1] at h2;cases h2
 unfold Lib.trimS Lib.trimLeftS Lib.trimRightS
 rw [zC]
 have:=drop_mem (m:=l.reverse) (p:=λx=>cs.contains x)
 simp only [List.mem_reverse] at this⊢
 exact this.symm
theorem ajH :(Tryz.prog.info? (renT.t 116)).map (λi=>(i.zero,i.size))=some (some (.agg (Array.replicate 256 (.bool false))),256):=by kernel_rfl
theorem axD (s:ByteArray) (h0:0<s.size) (hs:s.size<=9223372036854775807):PF Tryz.prog 256 [(PV.val (Value.string (s))),(PV.val (Value.string (abc9)))] (PV.val (Value.string (⟨(Lib.trimS s.data.toList abc9.data.toList).toArray⟩))):=
 aEF (by kernel_rfl) λw=>(Any.strings_Trim_set aG1 (zero_of_info ajH).1 (zero_of_info ajH).2 s abc9 w (by decide) h0 hs (by decide) (ascii_of_all (by decide))).mono λe w' ⟨h1,q,h2⟩=>⟨h1, .inr ⟨_,_,q,h2⟩⟩
theorem apD (s:ByteArray) (h:s.data.toList.all alB=true):(⟨(Lib.trimS s.data.toList abc9.data.toList).toArray⟩:ByteArray)=e0:=by
 rw [aeK.2 λx hx=>by rw [asC];exact zal.1 h x hx]
theorem aBs (s:ByteArray) (h:s.data.toList.all alB=false):(⟨(Lib.trimS s.data.toList abc9.data.toList).toArray⟩:ByteArray)≠e0:=λe=>by
 have:Lib.trimS s.data.toList abc9.data.toList=[]:=by
  have:=congrArg (λb:ByteArray=>b.data.toList) e
  simpa using this
 rw [aeK] at this
 rw [<-Bool.not_eq_true,zal] at h
 exact h λx hx=>by rw [<-asC];exact this x hx
theorem agH (b:ByteArray) (c:UInt8):PF Tryz.prog 404 [(PV.val (Value.string (b))), .val (.int .u8 (c.toNat:Int))] (PV.val (Value.int .i64 (firstIdx b c))):=by
 have e:(((c.toNat:Nat):Int).toNat).toUInt8=c:=by simp
 refine aG aF Tryz.func404 (by kernel_rfl) rfl rfl rfl rfl (λst=> ?_)
 (try apply wO pk;rfl);(repeat' first|show All _;constructor|show Imp _ _;constructor|apply wE pk;rfl;rfl|(refine aC ?_;refine ⟨_,_,_,rfl,zwr _,zsr _, ?_,rfl⟩;try first|rfl|(rw [e]);done)|apply aFd pk;rfl;rfl;exact Tryz.func417;kernel_rfl;kernel_rfl;kernel_rfl;kernel_rfl;rfl;rfl;rotate_left;rfl;rfl)
def one (c:UInt8):ByteArray:=⟨#[c]⟩
theorem axC (c:UInt8):PF Tryz.prog 379 [(PV.val (Value.string (abc))),(PV.val (Value.string (one c)))] (PV.val (Value.int .i64 (firstIdx abc c))):=by
 have hb:=agH abc c
 have hz:(one c).size=1:=rfl
 have hg:(one c)[0]?=some c:=rfl
 have hne:¬(one c=abc):=λe=>by have:=congrArg ByteArray.size e;rw [hz] at this;cases this
 have hno:¬(one c=ByteArray.empty\/one c=abc):=λq=>q.elim (λe=>by have:=congrArg ByteArray.size e;rw [hz] at this;cases this) hne
 refine aG aF Tryz.func379 (by kernel_rfl) rfl rfl rfl rfl (λst=> ?_)
 (try apply wO pk;rfl);(repeat' first|exact absurd ‹_› hno|show All _;constructor|show Imp _ _;constructor|show ImpX _ _ _ _;constructor|apply wC pk;rfl;rfl|apply wE pk;rfl;rfl|refine aA rfl ?_ ?_<;>intro h<;>(try simp at h)<;>try omega|(refine aC ?_;refine ⟨_,_,_,rfl,zwr _,zsr _, ?_,rfl⟩;try rfl)|(apply aH;rfl;rfl;rfl;(intro _;apply hb<;>first|assumption|omega);rotate_left;rfl;rfl)|apply sxA pk.htt 0 c;(iterate 6 rfl);exact hg;rfl)
theorem aoJ (c:UInt8):PF Tryz.prog 257 [(PV.val (Value.string (abc))),(PV.val (Value.string (one c)))] (PV.val (Value.bool (azR c))):=by
 have h1:=axC c
 have h2:PF Tryz.prog 332 [(PV.val (Value.string (abc))),(PV.val (Value.string (one c)))] (PV.val (Value.int .i64 (firstIdx abc c))):=by
  refine aG aF Tryz.func332 (by kernel_rfl) rfl rfl rfl rfl (λst=> ?_)
  (try apply wO pk;rfl);(repeat' first|show All _;constructor|show Imp _ _;constructor|apply wE pk;rfl;rfl|(refine aC ?_;refine ⟨_,_,_,rfl,zwr _,zsr _, ?_,rfl⟩;try rfl)|(apply aH;rfl;rfl;rfl;(intro _;apply h1<;>first|assumption|omega);rotate_left;rfl;rfl))
 refine aG aF Tryz.func257 (by kernel_rfl) rfl rfl rfl rfl (λst=> ?_)
 (try apply wO pk;rfl);(repeat' first|show All _;constructor|show Imp _ _;constructor|apply wE pk;rfl;rfl|(refine aC ?_;refine ⟨_,_,_,rfl,zwr _,zsr _, ?_,rfl⟩;try first|rfl|(rw [<-aB1]);done)|(apply aH;rfl;rfl;rfl;(intro _;apply h2<;>first|assumption|omega);rotate_left;rfl;rfl))
def zR (s:ByteArray):Bool:=match s.data.toList with
 |[]=>false
 |c::l=>azR c&&(decide (s.size<=12)&&(c::l).all alB)
theorem axH (s:ByteArray):s.size=s.data.toList.length:=(Array.length_toList (xs:=s.data)).symm
theorem adU (s:ByteArray):PF Tryz.prog 162 [(PV.val (Value.string (s)))] (PV.val (Value.bool (zR s))):=by
 unfold zR
 cases hl:s.data.toList with
 |nil=>
  obtain rfl:s=e0:=by
   apply ByteArray.ext
   apply Array.toList_inj.1
   rw [hl]
  refine aG aF Tryz.func162 (by kernel_rfl) rfl rfl rfl rfl (λst=> ?_)
  (try apply wO pk;rfl);(repeat' first|show All _;constructor|show Imp _ _;constructor|show ImpX _ _ _ _;constructor|apply wE pk;rfl;rfl|(refine aC ?_;refine ⟨_,_,_,rfl,zwr _,zsr _, ?_,rfl⟩;try rfl)|(apply aH;rfl;rfl;rfl;(intro _;(first|apply (show PF Tryz.prog 256 [_,_] (PV.val (Value.string (e0))) from by rename_i hh;exact absurd (show false=true from hh) (by simp))|apply (show PF Tryz.prog 257 [_,_] (PV.val (Value.bool (false))) from by rename_i hh;exact absurd (show false=true from hh) (by simp)))<;>first|assumption|omega);rotate_left;rfl;rfl)|apply slT pk 0 1;rfl;rfl;rfl;rotate_left;rfl;(intro _;exact bD);(intro _;exact aT rfl rfl);(intro _;omega);(intro hh;exact absurd (show false=true from hh) (by simp));rfl)
 |cons c l=>
  have hz:=axH s
  rw [hl] at hz
  have h0:0<s.size:=by rw [hz];simp
  have hne:¬(s=e0):=λe=>by rw [e] at h0;exact absurd h0 (by decide)
  have hne':¬(s=(⟨#[]⟩:ByteArray)):=hne
  have hone:s.extract 0 1=one c:=by
   apply ByteArray.ext
   apply Array.toList_inj.1
   show _=[c]
   rw [ByteArray.data_extract,Array.toList_extract,hl];rfl
  dsimp only
  by_cases h12:s.size<=12
  ·have ht:=axD s h0 (by omega)
   have hi12:(s.size:Int)<=12:=by omega
   have hc:=aoJ c
   rw [<-hone] at hc
   cases ha:s.data.toList.all alB with
   |true=>
    rw [apD s ha] at ht
    rw [hl] at ha
    rw [ha]
    refine aG aF Tryz.func162 (by kernel_rfl) rfl rfl rfl rfl (λst=> ?_)
    (try apply wO pk;rfl);(repeat' first|show All _;constructor|show Imp _ _;constructor|show ImpX _ _ _ _;constructor|apply wE pk;rfl;rfl|(refine aC ?_;refine ⟨_,_,_,rfl,zwr _,zsr _, ?_,rfl⟩;try first|rfl|(simp [hne,hne',h12,hi12,e0];done);done)|(apply aH;rfl;rfl;rfl;(intro _;(first|apply ht|apply hc)<;>first|assumption|omega);rotate_left;rfl;rfl)|apply slT pk 0 1;rfl;rfl;rfl;rotate_left;rfl;(intro _;exact bD);(intro _;exact aT rfl rfl);(intro _;omega);(intro _;omega);rfl)
   |false=>
    have htn:=aBs s ha
    rw [hl] at ha
    rw [ha]
    have htn':¬((⟨(Lib.trimS s.data.toList abc9.data.toList).toArray⟩:ByteArray)=(⟨#[]⟩:ByteArray)):=htn
    generalize (⟨(Lib.trimS s.data.toList abc9.data.toList).toArray⟩:ByteArray)=T at*
    refine aG aF Tryz.func162 (by kernel_rfl) rfl rfl rfl rfl (λst=> ?_)
    (try apply wO pk;rfl);(repeat' first|show All _;constructor|show Imp _ _;constructor|show ImpX _ _ _ _;constructor|apply wE pk;rfl;rfl|(refine aC ?_;refine ⟨_,_,_,rfl,zwr _,zsr _, ?_,rfl⟩;try first|rfl|(simp [hne,hne',h12,hi12,htn,htn'];done);done)|(apply aH;rfl;rfl;rfl;(intro _;(first|apply ht|apply hc)<;>first|assumption|omega);rotate_left;rfl;rfl)|apply slT pk 0 1;rfl;rfl;rfl;rotate_left;rfl;(intro _;exact bD);(intro _;exact aT rfl rfl);(intro _;omega);(intro _;omega);rfl)
  ·have hi12:¬(s.size:Int)<=12:=by omega
   have e:decide (s.size<=12)=false:=decide_eq_false h12
   have e2:decide ((s.size:Int)<=12)=false:=decide_eq_false (by omega)
   have e3:decide (s=e0)=false:=decide_eq_false hne
   have hT:∀p,(gw true (!decide (s=e0)) true&&p)=true->True:=λ_ _=>trivial
   rw [e,Bool.false_and,Bool.and_false]
   refine aG aF Tryz.func162 (by kernel_rfl) rfl rfl rfl rfl (λst=> ?_)
   (try apply wO pk;rfl);(repeat' first|show All _;constructor|show Imp _ _;constructor|show ImpX _ _ _ _;constructor|apply wE pk;rfl;rfl|(refine aC ?_;refine ⟨_,_,_,rfl,zwr _,zsr _, ?_,rfl⟩;try first|rfl|(simp [hne,hne',h12,hi12,e0];done);done)|(apply aH;rfl;rfl;rfl;(intro _;(first|apply (show PF Tryz.prog 256 [_,_] (PV.val (Value.string (e0))) from by rename_i hh;simp [gw,hne] at hh;omega)|apply (show PF Tryz.prog 257 [_,_] (PV.val (Value.bool (false))) from by rename_i hh;simp [gw,hne] at hh;omega))<;>first|assumption|omega);rotate_left;rfl;rfl)|apply slT pk 0 1;rfl;rfl;rfl;rotate_left;rfl;(intro _;exact bD);(intro _;exact aT rfl rfl);(intro _;omega);(intro hh;omega);rfl)
end Go.Proofs.YtloecjjehapblaaGreatDoor
