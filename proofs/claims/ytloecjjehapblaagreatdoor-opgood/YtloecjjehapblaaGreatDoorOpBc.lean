import Derived.Test.YtloecjjehapblaaGreatDoorOpBb
set_option linter.unusedSimpArgs false
set_option linter.unusedVariables false
namespace Go.Proofs.YtloecjjehapblaaGreatDoor
open Go Go.Abs
attribute [local irreducible] Ev PWp
set_option maxRecDepth 10000
set_option maxHeartbeats 4000000
theorem abV (c e:Cl):PF Tryz.prog 112 [.seq [c.cells,e.cells]] (PV.val (Value.int .i64 (if cI c≠0 then cI c else cI e))):=by
 have hc:=lM c
 have he:=lM e
 generalize cI c=R at*
 generalize cI e=Q at*
 refine aG aF Tryz.func112 (by kernel_rfl) rfl rfl rfl rfl (λst=> ?_)
 (try apply wO pk;rfl);(repeat' (show All _;constructor))
 refine aK (X:={x:Nat//x<=2/\(0<x->R=0)/\(x=2->Q=0)}) (λi=>((((St.nil 18 st).pv 6 (.seq [c.cells,e.cells])).pv 7 ((PV.val (Value.int .i64 ((([c.cells,e.cells]).length:Nat)))))).pv 8 ((PV.val (Value.int .i64 ((i.1:Nat))))))) (λi=>2-i.1) ⟨0,by omega,by omega,by omega⟩ ?_ (λi=> ?_)
 ·((repeat refine Sub.pv ?_ rfl);exact Sub.nil _ _ _ (zsr _) rfl)
 obtain ⟨i,h1,hinv,hinv2⟩:=i
 dsimp only
 rcases (show i=0\/i=1\/i=2 by omega) with rfl|rfl|rfl
 ·by_cases hR:R=0
  ·(try apply wO pk;rfl);(repeat' first|show All _;constructor|show Imp _ _;constructor|apply wC pk;rfl;rfl|apply wE pk;rfl;rfl|refine aA rfl ?_ ?_<;>intro h<;>(try simp at h)<;>try omega|(apply aH;rfl;rfl;rfl;(intro _;apply hc<;>first|assumption|omega);rotate_left;rfl;rfl)|apply aN pk;(iterate 6 rfl);rotate_left;rfl;(intro hw;rfl);(intro hw;apply (rfl:([c.cells,e.cells]:List (List PV))[0]?=some c.cells)<;>omega);(intro _;rfl);rfl|refine ⟨⟨1,by omega,λ_=>hR,by omega⟩, ?_,by simp only;omega⟩;((repeat refine Sub.pv ?_ rfl);exact Sub.nil _ _ _ (zsr _) rfl)|intros;(try simp only [zql]);omega)
  ·(try apply wO pk;rfl);(repeat' first|show All _;constructor|show Imp _ _;constructor|apply wC pk;rfl;rfl|apply wE pk;rfl;rfl|refine aA rfl ?_ ?_<;>intro h<;>(try simp at h)<;>try omega|(refine aC ?_;refine ⟨_,_,_,rfl,zwr _,zsr _, ?_,rfl⟩;try first|rfl|(rw [if_pos hR]);done)|(apply aH;rfl;rfl;rfl;(intro _;apply hc<;>first|assumption|omega);rotate_left;rfl;rfl)|apply aN pk;(iterate 6 rfl);rotate_left;rfl;(intro hw;rfl);(intro hw;apply (rfl:([c.cells,e.cells]:List (List PV))[0]?=some c.cells)<;>omega);(intro _;rfl);rfl)
 ·have h0:=hinv (by omega)
  by_cases hQ:Q=0
  ·(try apply wO pk;rfl);(repeat' first|show All _;constructor|show Imp _ _;constructor|apply wC pk;rfl;rfl|apply wE pk;rfl;rfl|refine aA rfl ?_ ?_<;>intro h<;>(try simp at h)<;>try omega|(apply aH;rfl;rfl;rfl;(intro _;apply he<;>first|assumption|omega);rotate_left;rfl;rfl)|apply aN pk;(iterate 6 rfl);rotate_left;rfl;(intro hw;rfl);(intro hw;apply (rfl:([c.cells,e.cells]:List (List PV))[1]?=some e.cells)<;>omega);(intro _;rfl);rfl|refine ⟨⟨2,by omega,λ_=>h0,λ_=>hQ⟩, ?_,by simp only;omega⟩;((repeat refine Sub.pv ?_ rfl);exact Sub.nil _ _ _ (zsr _) rfl)|intros;(try simp only [zql]);omega)
  ·(try apply wO pk;rfl);(repeat' first|show All _;constructor|show Imp _ _;constructor|apply wC pk;rfl;rfl|apply wE pk;rfl;rfl|refine aA rfl ?_ ?_<;>intro h<;>(try simp at h)<;>try omega|(refine aC ?_;refine ⟨_,_,_,rfl,zwr _,zsr _, ?_,rfl⟩;try first|rfl|(rw [if_neg (by omega)]);done)|(apply aH;rfl;rfl;rfl;(intro _;apply he<;>first|assumption|omega);rotate_left;rfl;rfl)|apply aN pk;(iterate 6 rfl);rotate_left;rfl;(intro hw;rfl);(intro hw;apply (rfl:([c.cells,e.cells]:List (List PV))[1]?=some e.cells)<;>omega);(intro _;rfl);rfl)
 ·have h0:=hinv (by omega)
  have h2:=hinv2 rfl
  (try apply wO pk;rfl);(repeat' first|show All _;constructor|apply wC pk;rfl;rfl|refine aA rfl ?_ ?_<;>intro h<;>(try simp at h)<;>try omega|(refine aC ?_;refine ⟨_,_,_,rfl,zwr _,zsr _, ?_,rfl⟩;try first|rfl|(rw [if_neg (by omega),h2]);done))
def xX (r:Cl×Int):PV:= .tup [.agg r.1.cells,(PV.val (Value.int .i64 (r.2)))]
theorem aEZ (e:Int):Wk (.tup [.agg [(PV.val (Value.int .i64 (0))),(PV.val (Value.int .i64 (0))),(PV.val (Value.int .i64 (0))), .val (.string e0), .val (.slice none 0 0)],(PV.val (Value.int .i64 (e)))]) (xX (Cl.zero,e)):=Wk.tup (.cons wkz (.cons (zwr _) .nil))
theorem avE (c:Cl):PF Tryz.prog 317 [.agg c.cells] (xX (if cI c≠0 then (Cl.zero,cI c) else (c,0))):=by
 have hc:=tD c
 generalize cI c=R at*
 by_cases hR:R≠0
 ·rw [if_pos hR]
  refine aG aF Tryz.func317 (by kernel_rfl) rfl rfl rfl rfl (λst=> ?_)
  (try apply wO pk;rfl);(repeat' first|refine aC ?_;exact ⟨_,_,_,rfl,aEZ _,zsr _,rfl,rfl⟩|show All _;constructor|show Imp _ _;constructor|apply wC pk;rfl;rfl|apply wE pk;rfl;rfl|refine aA rfl ?_ ?_<;>intro h<;>(try simp at h)<;>try omega|(apply aH;rfl;rfl;rfl;(intro _;apply hc<;>first|assumption|omega);rotate_left;rfl;rfl))
 ·rw [if_neg hR]
  refine aG aF Tryz.func317 (by kernel_rfl) rfl rfl rfl rfl (λst=> ?_)
  (try apply wO pk;rfl);(repeat' first|show All _;constructor|show Imp _ _;constructor|apply wC pk;rfl;rfl|apply wE pk;rfl;rfl|refine aA rfl ?_ ?_<;>intro h<;>(try simp at h)<;>try omega|(refine aC ?_;refine ⟨_,_,_,rfl,zwr _,zsr _, ?_,rfl⟩;try rfl)|(apply aH;rfl;rfl;rfl;(intro _;apply hc<;>first|assumption|omega);rotate_left;rfl;rfl))
theorem auC {c:Cl} (h:cI c=0): -1099511627776<=c.val.n/\c.val.n<=1099511627776:=by
 unfold cI at h
 split at h
 ·cases h
 ·split at h
  ·cases h
  ·split at h
   ·cases h
   ·omega
theorem acZ (c:Cl) (n:Int) (hn:inL n):PF Tryz.prog 244 [.agg c.cells,(PV.val (Value.int .i64 (n)))] (xX (sP c n)):=by
 have h1:=uI [n] (by simp) (by simpa using hn)
 rw [show ([n]:List Int).sum=n from by simp] at h1
 have h2:=abV c (oE n)
 unfold sP
 by_cases hc:cI c≠0
 ·rw [if_pos hc] at h2⊢
  generalize cI c=R at*
  refine aG aF Tryz.func244 (by kernel_rfl) rfl rfl rfl rfl (λst=> ?_)
  (try apply wO pk;rfl);(repeat' first|refine aC ?_;exact ⟨_,_,_,rfl,aEZ _,zsr _,rfl,rfl⟩|show All _;constructor|show Imp _ _;constructor|apply wC pk;rfl;rfl|apply wE pk;rfl;rfl|apply wD pk [] [];kernel_rfl;rfl;rfl|refine aA rfl ?_ ?_<;>intro h<;>(try simp at h)<;>try omega|(apply aH;rfl;rfl;rfl;(intro _;(first|apply h1|apply h2)<;>first|assumption|omega);rotate_left;rfl;rfl))
 rw [if_neg hc] at h2⊢
 have hc:=Decidable.of_not_not hc
 by_cases hd:cI (oE n)≠0
 ·rw [if_pos hd]
  generalize cI (oE n)=R at*
  refine aG aF Tryz.func244 (by kernel_rfl) rfl rfl rfl rfl (λst=> ?_)
  (try apply wO pk;rfl);(repeat' first|refine aC ?_;exact ⟨_,_,_,rfl,aEZ _,zsr _,rfl,rfl⟩|show All _;constructor|show Imp _ _;constructor|apply wC pk;rfl;rfl|apply wE pk;rfl;rfl|apply wD pk [] [];kernel_rfl;rfl;rfl|refine aA rfl ?_ ?_<;>intro h<;>(try simp at h)<;>try omega|(apply aH;rfl;rfl;rfl;(intro _;(first|apply h1|apply h2)<;>first|assumption|omega);rotate_left;rfl;rfl))
 rw [if_neg hd]
 have hd:=Decidable.of_not_not hd
 rw [hd] at h2
 have hci:=auC hc
 have h3:=uI [c.val.n,n] (by simp) (λx hx=>by
  rcases zmc.1 hx with rfl|hx
  ·unfold inL;omega
  ·rw [List.mem_singleton.1 hx];exact hn)
 rw [show ([c.val.n,n]:List Int).sum=c.val.n+n from by simp] at h3
 have h4:=avE (oE (c.val.n+n))
 generalize oE (c.val.n+n)=D at*
 by_cases he:cI D≠0
 ·rw [if_pos he] at h4⊢
  generalize cI D=R at*
  refine aG aF Tryz.func244 (by kernel_rfl) rfl rfl rfl rfl (λst=> ?_)
  (try apply wO pk;rfl);(repeat' first|show All _;constructor|show Imp _ _;constructor|apply wC pk;rfl;rfl|apply wE pk;rfl;rfl|apply wD pk [] [];kernel_rfl;rfl;rfl|refine aA rfl ?_ ?_<;>intro h<;>(try simp at h)<;>try omega|(refine aC ?_;refine ⟨_,_,_,rfl,zwr _,zsr _, ?_,rfl⟩;try rfl)|(apply aH;rfl;rfl;rfl;(intro _;(first|apply h1|apply h2|apply h3|apply h4)<;>first|assumption|omega);rotate_left;rfl;rfl))
 ·rw [if_neg he] at h4⊢
  refine aG aF Tryz.func244 (by kernel_rfl) rfl rfl rfl rfl (λst=> ?_)
  (try apply wO pk;rfl);(repeat' first|show All _;constructor|show Imp _ _;constructor|apply wC pk;rfl;rfl|apply wE pk;rfl;rfl|apply wD pk [] [];kernel_rfl;rfl;rfl|refine aA rfl ?_ ?_<;>intro h<;>(try simp at h)<;>try omega|(refine aC ?_;refine ⟨_,_,_,rfl,zwr _,zsr _, ?_,rfl⟩;try rfl)|(apply aH;rfl;rfl;rfl;(intro _;(first|apply h1|apply h2|apply h3|apply h4)<;>first|assumption|omega);rotate_left;rfl;rfl))
theorem avN :PF Tryz.prog 304 [] (.agg (oE 0).cells):=by
 have h:=uI [] (by simp) (by simp)
 refine aG aF Tryz.func304 (by kernel_rfl) rfl rfl rfl rfl (λst=> ?_)
 (try apply wO pk;rfl);(repeat' first|show All _;constructor|apply wE pk;rfl;rfl|(refine aC ?_;refine ⟨_,_,_,rfl,zwr _,zsr _, ?_,rfl⟩;try rfl)|(apply arG (qs:=[.seq []]) (p:= .agg (oE 0).cells);rfl;rfl;rfl;exact (WkL.cons Wk.nil .nil);(intro _;exact h);(focus repeat' constructor);rfl);rfl)
theorem wkN (k:Int):Wk (.agg [(PV.val (Value.int .i64 (k))),(PV.val (Value.int .i64 (0))),(PV.val (Value.int .i64 (0))), .val (.string e0), .val (.slice none 0 0)]) (.agg (Cl.mk k Vl.zero []).cells):= .agg (.cons (zwr _) (.cons (zwr _) (.cons (zwr _) (.cons (zwr _) (.cons Wk.nil .nil)))))
theorem avM :PF Tryz.prog 305 [] (.agg (Cl.mk 4 Vl.zero []).cells):=by
 refine aG aF Tryz.func305 (by kernel_rfl) rfl rfl rfl rfl (λst=> ?_)
 (try apply wO pk;rfl);(repeat' first|refine aC ?_;exact ⟨_,_,_,rfl,wkN 4,zsr _,rfl,rfl⟩|show All _;constructor)
theorem iG (w:Wr):PF Tryz.prog 157 [.agg w.cells] (.agg w.dot.cells):=by
 refine aG aF Tryz.func157 (by kernel_rfl) rfl rfl rfl rfl (λst=> ?_)
 (try apply wO pk;rfl);(repeat' first|show All _;constructor|(refine aC ?_;refine ⟨_,_,_,rfl,zwr _,zsr _, ?_,rfl⟩;try rfl))
theorem wkV (v:Vl) (e:Int):Wk (.tup [.agg [(PV.val (Value.int .i64 (0))),(PV.val (Value.int .i64 (v.kind))),(PV.val (Value.int .i64 (v.n))),(PV.val (Value.string (v.s))), .val (.slice none 0 0)],(PV.val (Value.int .i64 (e)))]) (xX (⟨0,v,[]⟩,e)):=Wk.tup (.cons (.agg (.cons (zwr _) (.cons (zwr _) (.cons (zwr _) (.cons (zwr _) (.cons Wk.nil .nil)))))) (.cons (zwr _) .nil))
theorem aGZ (k e:Int):Wk (.tup [.agg [(PV.val (Value.int .i64 (k))),(PV.val (Value.int .i64 (0))),(PV.val (Value.int .i64 (0))), .val (.string e0), .val (.slice none 0 0)],(PV.val (Value.int .i64 (e)))]) (xX (⟨k,Vl.zero,[]⟩,e)):=Wk.tup (.cons (wkN k) (.cons (zwr _) .nil))
theorem aoY (w:Wr) (kind:Int) (v:Vl) (hv:inL v.n) (hs:v.s.size<1000000) (hk:w.knew.length<1000000000000):PF Tryz.prog 233 [.agg w.cells,(PV.val (Value.int .i64 (kind))), .agg v.cells] (xX (kE w kind v)):=by
 have hd:=iG w
 unfold kE
 by_cases k0:kind=0
 ·rw [if_pos k0]
  refine aG aF Tryz.func233 (by kernel_rfl) rfl rfl rfl rfl (λst=> ?_)
  (try apply wO pk;rfl);(repeat' first|refine aC ?_;exact ⟨_,_,_,rfl,wkV v 0,zsr _,rfl,rfl⟩|show All _;constructor|apply wC pk;rfl;rfl|apply wD pk [] [];kernel_rfl;rfl;rfl|refine aA rfl ?_ ?_<;>intro h<;>(try simp at h)<;>try omega)
 rw [if_neg k0]
 by_cases k2:kind=2
 ·rw [if_pos k2]
  have ha:=acZ (oE 0) v.n hv
  generalize sP (oE 0) v.n=R at*
  refine aG aF Tryz.func233 (by kernel_rfl) rfl rfl rfl rfl (λst=> ?_)
  (try apply wO pk;rfl);(repeat' first|show All _;constructor|show Imp _ _;constructor|apply wC pk;rfl;rfl|apply wE pk;rfl;rfl|apply wD pk [] [];kernel_rfl;rfl;rfl|refine aA rfl ?_ ?_<;>intro h<;>(try simp at h)<;>try omega|(refine aC ?_;refine ⟨_,_,_,rfl,zwr _,zsr _, ?_,rfl⟩;try rfl)|(apply aH;rfl;rfl;rfl;(intro _;(first|apply avN|apply ha)<;>first|assumption|omega);rotate_left;rfl;rfl))
 rw [if_neg k2]
 by_cases k4:kind=4
 ·rw [if_pos k4]
  have ht:=T.type_spec ⟨4,Vl.zero,[]⟩ v.s w.who Dt.zero 0 (by simp) hs
  rw [show (⟨Dt.zero,0⟩:T.Nm)=T.Nm.zero from rfl] at ht
  generalize T.typeP ⟨4,Vl.zero,[]⟩ v.s w.who T.Nm.zero=R at*
  refine aG aF Tryz.func233 (by kernel_rfl) rfl rfl rfl rfl (λst=> ?_)
  (try apply wO pk;rfl);(repeat' first|show All _;constructor|show Imp _ _;constructor|apply wC pk;rfl;rfl|apply wE pk;rfl;rfl|apply wD pk [] [];kernel_rfl;rfl;rfl|refine aA rfl ?_ ?_<;>intro h<;>(try simp at h)<;>try omega|(refine aC ?_;refine ⟨_,_,_,rfl,zwr _,zsr _, ?_,rfl⟩;try rfl)|(apply aH;rfl;rfl;rfl;(intro _;(first|apply avM|apply ht)<;>first|assumption|omega);rotate_left;rfl;rfl))
 rw [if_neg k4]
 by_cases v0:v.kind=0
 ·rw [if_pos v0]
  refine aG aF Tryz.func233 (by kernel_rfl) rfl rfl rfl rfl (λst=> ?_)
  (try apply wO pk;rfl);(repeat' first|refine aC ?_;exact ⟨_,_,_,rfl,aGZ kind 0,zsr _,rfl,rfl⟩|show All _;constructor|apply wC pk;rfl;rfl|apply wD pk [] [];kernel_rfl;rfl;rfl|refine aA rfl ?_ ?_<;>intro h<;>(try simp at h)<;>try omega)
 rw [if_neg v0]
 by_cases k3:kind=3
 ·rw [if_pos k3]
  have hp:=aaI ⟨kind,Vl.zero,[]⟩ v.n w.dot (by simp)
  generalize nA ⟨kind,Vl.zero,[]⟩ v.n w.dot=R at*
  refine aG aF Tryz.func233 (by kernel_rfl) rfl rfl rfl rfl (λst=> ?_)
  (try apply wO pk;rfl);(repeat' first|show All _;constructor|show Imp _ _;constructor|apply wC pk;rfl;rfl|apply wE pk;rfl;rfl|apply wD pk [] [];kernel_rfl;rfl;rfl|refine aA rfl ?_ ?_<;>intro h<;>(try simp at h)<;>try omega|(refine aC ?_;refine ⟨_,_,_,rfl,zwr _,zsr _, ?_,rfl⟩;try rfl)|(apply aH;rfl;rfl;rfl;(intro _;apply hd<;>first|assumption|omega);rotate_left;rfl;rfl)|(apply arG (qs:=[.agg (Cl.mk kind Vl.zero []).cells,(PV.val (Value.int .i64 (v.n))), .agg w.dot.cells]) (p:= .agg R.cells);rfl;rfl;rfl;exact (WkL.cons (wkN kind) (.cons (zwr _) (.cons (zwr _) .nil)));(intro _;exact hp);(focus repeat' constructor);rfl);rfl)
 ·rw [if_neg k3]
  have hp:=xO ⟨kind,Vl.zero,[]⟩ v w.dot w.knew (by simp) hk
  generalize gV ⟨kind,Vl.zero,[]⟩ v w.dot w.knew=R at*
  refine aG aF Tryz.func233 (by kernel_rfl) rfl rfl rfl rfl (λst=> ?_)
  (try apply wO pk;rfl);(repeat' first|show All _;constructor|show Imp _ _;constructor|apply wC pk;rfl;rfl|apply wE pk;rfl;rfl|apply wD pk [] [];kernel_rfl;rfl;rfl|refine aA rfl ?_ ?_<;>intro h<;>(try simp at h)<;>try omega|(refine aC ?_;refine ⟨_,_,_,rfl,zwr _,zsr _, ?_,rfl⟩;try rfl)|(apply aH;rfl;rfl;rfl;(intro _;apply hd<;>first|assumption|omega);rotate_left;rfl;rfl)|(apply arG (qs:=[.agg (Cl.mk kind Vl.zero []).cells, .agg v.cells, .agg w.dot.cells, .seq (w.knew.map I1)]) (p:= .agg R.cells);rfl;rfl;rfl;exact (WkL.cons (wkN kind) (.cons (zwr _) (.cons (zwr _) (.cons (zwr _) .nil))));(intro _;exact hp);(focus repeat' constructor);rfl);rfl)
def oY :Option (Nat×List Pt)->PV
 |none=> .val (.slice none 0 0)
 |some y=> .vec y.1 11 0 y.2.length
def mG :Option (Nat×List Pt)->List Pt
 |none=>[]
 |some y=>y.2
structure AccP (L:Nat->Prop) (S:aJ) (id3:Nat) (a:Option (Nat×List Pt)):Prop where
 box:S id3=some (.cells 78 [oY a])
 arr:∀y,a=some y->S y.1=some (.arr 190 (y.2.map Pt.cells))/\¬L y.1
 out:¬L id3
theorem AccP.grow {L:Nat->Prop} {S S1:aJ} {id3:Nat} {a:Option (Nat×List Pt)} (h:AccP L S id3 a) {i':Nat} {l':List Pt} (hi:S i'=none) (hL:∀j,L j->S j≠none)
  (hS:S1=upd (upd S i' (some (.arr 190 (l'.map Pt.cells)))) id3 (some (.cells 78 [oY (some (i',l'))]))\/∃y,a=some y/\S1=upd (upd (upd S y.1 none) i' (some (.arr 190 (l'.map Pt.cells)))) id3 (some (.cells 78 [oY (some (i',l'))]))):
  AccP L S1 id3 (some (i',l'))/\∀j,L j->S1 j=S j:=by
 have n3:i'≠id3:=λe=>by rw [e,h.box] at hi;cases hi
 have ni:¬L i':=λq=>hL i' q hi
 rcases hS with rfl|⟨y,ha,rfl⟩
 ·refine ⟨⟨aB _ _ _,λy e=> ?_,h.out⟩,λj hj=> ?_⟩
  ·injection e with e;subst e
   exact ⟨by rw [aD n3,aB],ni⟩
  ·rw [aD (λe=>h.out (by rw [<-e];exact hj)),aD (λe=>ni (by rw [<-e];exact hj))]
 ·refine ⟨⟨aB _ _ _,λy e=> ?_,h.out⟩,λj hj=> ?_⟩
  ·injection e with e;subst e
   exact ⟨by rw [aD n3,aB],ni⟩
  ·rw [aD (λe=>h.out (by rw [<-e];exact hj)),aD (λe=>ni (by rw [<-e];exact hj)),aD (λe=>(h.arr y ha).2 (by rw [<-e];exact hj))]
theorem AccP.move {L L':Nat->Prop} {S S1:aJ} {id3:Nat} {a:Option (Nat×List Pt)} (h:AccP L S id3 a) (h3:S1 id3=S id3) (ha:∀y,a=some y->S1 y.1=S y.1/\¬L' y.1) (hL:¬L' id3):AccP L' S1 id3 a:=
 ⟨h3.trans h.box,λy e=>⟨(ha y e).1.trans (h.arr y e).1,(ha y e).2⟩,hL⟩
theorem AccP.round {L:Nat->Prop} {S S1:aJ} {id3 idl:Nat} {a:Option (Nat×List Pt)} (h:AccP L S id3 a) (hl:L idl) (hL:∀j,L j->S j≠none) (busy ready:AObj) {i':Nat} {l':List Pt} (hi:upd S idl (some busy) i'=none)
  (hS:S1=upd (upd (upd S idl (some busy)) i' (some (.arr 190 (l'.map Pt.cells)))) id3 (some (.cells 78 [oY (some (i',l'))]))\/∃y,a=some y/\S1=upd (upd (upd (upd S idl (some busy)) y.1 none) i' (some (.arr 190 (l'.map Pt.cells)))) id3 (some (.cells 78 [oY (some (i',l'))]))):
  AccP L (upd S1 idl (some ready)) id3 (some (i',l'))/\S1 idl=some busy/\∀j,L j->j≠idl->upd S1 idl (some ready) j=S j:=by
 have n3:id3≠idl:=λe=>h.out (by rw [e];exact hl)
 have hb:AccP L (upd S idl (some busy)) id3 a:=h.move (aD n3) (λy e=>⟨aD λq=>(h.arr y e).2 (by rw [q];exact hl),(h.arr y e).2⟩) h.out
 have hLb:∀j,L j->upd S idl (some busy) j≠none:=λj hj=>by
  by_cases e:j=idl
  ·rw [e,aB];simp
  ·rw [aD e];exact hL j hj
 obtain ⟨g1,g2⟩:=hb.grow hi hLb hS
 refine ⟨g1.move (aD n3) (λy e=>⟨aD λq=>(g1.arr y e).2 (by rw [q];exact hl),(g1.arr y e).2⟩) g1.out,by rw [g2 idl hl,aB],λj hj hne=> ?_⟩
 rw [aD hne,g2 j hj,aD hne]
theorem azW {idl:Nat} (l:List Pt) (fid:FuncId) (caps:List PV) (f:Pt->Bool) (hl:l.length<1000000000) (hf:∀p,PF Tryz.prog fid ([.agg p.cells]++caps) (PV.val (Value.bool (f p)))) {st:aJ} (J:Nat->aJ->Prop) (h0:J 0 st)
  (h1:∀i S (h:i<l.length),J i S->f l[i]=false->J (i+1) S)
  (h2:∀i S (h:i<l.length),J i S->f l[i]=true->PY Tryz.prog idl [.agg l[i].cells] S λr S'=>r= .val (.bool true)/\J (i+1) S'):
  PC Tryz.prog 371 [.yld idl, .rp [.seq (l.map Pt.cells)], .rp [.fn fid caps]] st λ_ S=>J l.length S:=by
 refine bZ aF Tryz.func371 (by kernel_rfl) rfl rfl rfl rfl ?_
 focus ((try apply wO pk;rfl);(repeat' (show All _;constructor)))
 refine aK (X:={x:Nat×aJ//x.1<=l.length/\J x.1 x.2}) (λi=>((((((St.nil 22 (i.1.2)).pv 0 (.yld idl)).pv 2 (.rp [.fn fid caps])).pv 6 (.seq (l.map Pt.cells))).pv 7 ((PV.val (Value.int .i64 (((l.map Pt.cells).length:Nat)))))).pv 8 ((PV.val (Value.int .i64 ((i.1.1:Nat))))))) (λi=>l.length-i.1.1) ⟨(0,st),by simp,h0⟩ ?_ (λi=> ?_)
 ·(((repeat refine Sub.pv ?_ rfl);(exact Sub.nil _ _ _ (zsr _) rfl)))
 obtain ⟨⟨i,S⟩,hi,hJ⟩:=i
 simp only at hi hJ
 dsimp only
 by_cases hend:l.length<=i
 ·have e:i=l.length:=by omega
  rw [e] at hJ
  (try apply wO pk;rfl);(repeat' first|show All _;constructor|apply wC pk;rfl;rfl|apply wX pk;rfl|refine aA rfl ?_ ?_<;>intro h<;>(try simp at h)<;>try omega|(try refine aC ?_);((refine ⟨_,_,_,rfl,zwr _,zsr _, ?_⟩;(exact hJ);done)))
 have hil:i<l.length:=by omega
 have hfi:=hf l[i]
 cases hb:f l[i] with
 |false=>
  have hn:=h1 i S hil hJ hb
  rw [hb] at hfi
  (try apply wO pk;rfl);(repeat' first|show All _;constructor|show Imp _ _;constructor|show ImpX _ _ _ _;constructor|apply wC pk;rfl;rfl|apply wE pk;rfl;rfl|refine aA rfl ?_ ?_<;>intro h<;>(try simp at h)<;>try omega|(apply aH;rfl;rfl;rfl;(intro _;apply hfi<;>first|assumption|omega);rotate_left;rfl;rfl)|apply aN pk;(iterate 6 rfl);rotate_left;rfl;(intro hw;rfl);(intro hw;apply aI<;>omega);(intro _;rfl);rfl|apply aGd (PV.val (Value.bool (false)));rfl;rfl;rfl|refine ⟨⟨(i+1,S),by simp only;omega,hn⟩, ?_,by simp only;omega⟩;((repeat refine Sub.pv ?_ rfl);exact Sub.nil _ _ _ (zsr _) rfl)|intros;(try simp only [zql]);omega)
 |true=>
  have hy:=h2 i S hil hJ hb
  rw [hb] at hfi
  (try apply wO pk;rfl);(repeat' first|show All _;constructor|show Imp _ _;constructor|show ImpX _ _ _ _;constructor|apply wC pk;rfl;rfl|apply wE pk;rfl;rfl|refine aA rfl ?_ ?_<;>intro h<;>(try simp at h)<;>try omega|(apply aH;rfl;rfl;rfl;(intro _;apply hfi<;>first|assumption|omega);rotate_left;rfl;rfl)|apply aN pk;(iterate 6 rfl);rotate_left;rfl;(intro hw;rfl);(intro hw;apply aI<;>omega);(intro _;rfl);rfl|(apply aEj;rfl;rfl;rfl;exact hy;rfl;rfl;rfl;rintro _ S' ⟨rfl,hJ'⟩)|refine ⟨⟨(i+1,S'),by simp only;omega,hJ'⟩, ?_,by simp only;omega⟩;((repeat refine Sub.pv ?_ rfl);exact Sub.nil _ _ _ (zsr _) rfl)|intros;(try simp only [zql]);omega)
theorem auL (l:List Pt) (fid:FuncId) (caps:List PV):PF Tryz.prog 319 [.seq (l.map Pt.cells), .fn fid caps] (.fn 371 [.rp [.seq (l.map Pt.cells)], .rp [.fn fid caps]]):=by
 refine aG aF Tryz.func319 (by kernel_rfl) rfl rfl rfl rfl (λst=> ?_)
 (try apply wO pk;rfl);(repeat' first|show All _;constructor|apply wE pk;rfl;rfl|(refine aC ?_;refine ⟨_,_,_,rfl,zwr _,zsr _, ?_,rfl⟩;try rfl)|apply bC 2;rfl;rfl|apply bC 3;rfl;rfl)
theorem amC (n:Int) (d:Dt) (kn:List Int) (hk:kn.length<1000000000000) (p:Pt):PF Tryz.prog 320 ([.agg p.cells]++[.rp [(PV.val (Value.int .i64 (n)))], .rp d.cells, .rp [.seq (kn.map I1)]]) (PV.val (Value.bool (rD n d kn p))):=by
 have h:=aeJ kn p.dot hk
 have e:rD n d kn p=(!decide (p.val.n=n)||(!(decide (p.dot.dev=d.dev)&&decide (p.dot.seq=d.seq))&& !alN kn p.dot)):=by unfold rD;rw [aGg];simp
 rw [e]
 generalize alN kn p.dot=H at*
 refine aG aF Tryz.func320 (by kernel_rfl) rfl rfl rfl rfl (λst=> ?_)
 (try apply wO pk;rfl);(repeat' first|show All _;constructor|show Imp _ _;constructor|show ImpX _ _ _ _;constructor|apply wE pk;rfl;rfl|(refine aC ?_;refine ⟨_,_,_,rfl,zwr _,zsr _, ?_,rfl⟩;try rfl)|(apply aH;rfl;rfl;rfl;(intro _;apply h<;>first|assumption|omega);rotate_left;rfl;rfl))
structure TkJ (st0:aJ) (lp:AObj) (idl id2:Nat) (m:List Pt) (S:aJ):Prop where
 loop:S idl=some lp
 acc:∃b,AccP (λj=>st0 j≠none\/j=idl) S id2 b/\mG b=m
 old:∀j,st0 j≠none->S j=st0 j
theorem TkJ.live {st0 S:aJ} {lp:AObj} {idl id2:Nat} {m:List Pt} (h:TkJ st0 lp idl id2 m S):∀j,st0 j≠none\/j=idl->S j≠none:=λj hj=>by
 rcases hj with hj|rfl
 ·rw [h.old j hj];exact hj
 ·rw [h.loop];simp
theorem aqO {l:List Pt} {f:Pt->Bool} {i:Nat} (h:i<l.length):(l.take (i+1)).filter f=(l.take i).filter f++if f l[i]=true then [l[i]] else []:=by
 rw [List.take_succ_eq_append_getElem h,List.filter_append]
 by_cases hf:f l[i]=true
 ·rw [if_pos hf];simp [hf]
 ·rw [if_neg hf];simp [hf]
theorem aCr (c:Cl) (n:Int) (d:Dt) (kn:List Int) (hl:c.parts.length<100000) (hk:kn.length<1000000000000) (st:aJ):PC Tryz.prog 248 [.agg c.cells,(PV.val (Value.int .i64 (n))), .agg d.cells, .seq (kn.map I1)] st λr S=>∃b,r= .agg [(PV.val (Value.int .i64 (c.kind))),(PV.val (Value.int .i64 (c.val.kind))),(PV.val (Value.int .i64 (c.val.n))),(PV.val (Value.string (c.val.s))),oY b]/\mG b=c.parts.filter (rD n d kn)/\(∀y,b=some y->S y.1=some (.arr 190 (y.2.map Pt.cells))/\st y.1=none)/\∀j,st j≠none->S j=st j:=by
 have hsp:=auL c.parts 320 [.rp [(PV.val (Value.int .i64 (n)))], .rp d.cells, .rp [.seq (kn.map I1)]]
 have hkp:=amC n d kn hk
 refine bZ aF Tryz.func248 (by kernel_rfl) rfl rfl rfl rfl ?_
 focus ((try apply wO pk;rfl);(repeat' first|show All _;constructor|show Imp _ _;constructor|apply wE pk;rfl;rfl|(apply aH;rfl;rfl;rfl;(intro _;apply hsp<;>first|assumption|omega);rotate_left;rfl;rfl)|apply bC 5;rfl;rfl|apply bC 6;rfl;rfl|apply bC 7;rfl;rfl))
 refine awS 9 rfl rfl λid2 h2=> ?_
 have h2:st id2=none:=h2
 refine aoO [(9, .ref id2 0)] rfl rfl ⟨rfl,trivial⟩ (λidl S=>∃b,mG b=c.parts.filter (rD n d kn)/\AccP (λj=>st j≠none) (upd S idl none) id2 b/\∀j,st j≠none->upd S idl none j=st j) ?_ ?_
 ·intro idl hidl
  have hidl:upd st id2 (some (.cells 78 [.val (.slice none 0 0)])) idl=none:=hidl
  have nl2:idl≠id2:=λe=>by rw [e,aB] at hidl;cases hidl
  have hsl:st idl=none:=by rwa [aD nl2] at hidl
  generalize hlp:AObj.loop _ _ _ _ _ _=lp
  have:=azW (idl:=idl) c.parts 320 [.rp [(PV.val (Value.int .i64 (n)))], .rp d.cells, .rp [.seq (kn.map I1)]] (rD n d kn) (by omega) hkp (st:=upd (upd st id2 (some (.cells 78 [.val (.slice none 0 0)]))) idl (some lp)) (λi S=>TkJ st lp idl id2 ((c.parts.take i).filter (rD n d kn)) S) ?_ (λi S hi hJ hf=> ?_) (λi S hi hJ hf=> ?_)
  ·refine ⟨this.1,λw g vs h1 h2=>(this.2 w g vs h1 h2).mono ?_⟩
   rintro e w' ⟨v,q,S,g',h3,hJ,h4⟩
   rw [List.take_of_length_le (Nat.le_refl _)] at hJ
   obtain ⟨b,hb,hbl⟩:=hJ.acc
   refine ⟨v,q,S,g',h3,⟨hJ.loop,b,hbl,hb.move (aD λe=>hb.out (.inr e)) (λy e=>⟨aD λq=>(hb.arr y e).2 (.inr q),λq=>(hb.arr y e).2 (.inl q)⟩) (λq=>hb.out (.inl q)),λj hj=> ?_⟩,h4⟩
   rw [aD (λe=>hj (by rw [e];exact hsl))]
   exact hJ.old j hj
  ·refine ⟨aB _ _ _,⟨none,⟨by rw [aD (Ne.symm nl2),aB];rfl,λ_ e=>(by cases e), ?_⟩,by simp [mG]⟩,λj hj=> ?_⟩
   ·rintro (q|q)
    ·exact q h2
    ·exact nl2 q.symm
   ·rw [aD (λe=>hj (by rw [e];exact hsl)),aD (λe=>hj (by rw [e];exact h2))]
  ·rw [aqO hi,if_neg (by rw [hf];simp),List.append_nil];exact hJ
  ·rw [aqO hi,if_pos hf]
   have hloop:=hJ.loop
   obtain ⟨b,hb,hbl⟩:=hJ.acc
   have hbn:(mG b).length<=100000:=by
    rw [hbl]
    have:=List.length_filter_le (rD n d kn) (c.parts.take i)
    rw [zlt] at this
    omega
   have hL:=hJ.live
   have ho:=hJ.old
   rw [<-hbl]
   generalize c.parts[i]=x at*
   have hfin:∀(busy:AObj) (i':Nat) (S1:aJ),upd S idl (some busy) i'=none->(S1=upd (upd (upd S idl (some busy)) i' (some (.arr 190 ((mG b++[x]).map Pt.cells)))) id2 (some (.cells 78 [oY (some (i',mG b++[x]))]))\/∃y,b=some y/\S1=upd (upd (upd (upd S idl (some busy)) y.1 none) i' (some (.arr 190 ((mG b++[x]).map Pt.cells)))) id2 (some (.cells 78 [oY (some (i',mG b++[x]))])))->S1 idl=some busy/\TkJ st lp idl id2 (mG b++[x]) (upd S1 idl (some lp)):=λbusy i' S1 hi' hS1=>by
    obtain ⟨g1,g2,g3⟩:=hb.round (.inr rfl) hL busy lp hi' hS1
    exact ⟨g2,aB _ _ _,⟨_,g1,rfl⟩,λj hj=>by rw [g3 j (.inl hj) (λe=>hj (by rw [e];exact hsl))];exact ho j hj⟩
   have nb2:id2≠idl:=Ne.symm nl2
   have hbx:∀o,upd S idl o id2=some (.cells 78 [oY b]):=λo=>(aD nb2).trans hb.box
   rw [<-hlp] at hloop
   refine aGB (R:=λS'=>TkJ st lp idl id2 (mG b++[x]) S') hloop (show 15<23 by decide) ?_
   show PWp _ _ _ (((St.nilR 23 S).pv 9 (.ref id2 0)).pv 15 (.agg x.cells))
   (try apply wO pk;rfl);(repeat' (show All _;constructor))
   refine ⟨rfl,hloop, ?_⟩
   cases b with
   |none=>
    (try apply wO pk;rfl);(repeat' first|show All _;constructor|show Imp _ _;constructor|apply wE pk;rfl;rfl|(apply ap0 pk (f:=Pt.cells) [x] 96;(iterate 10 rfl);exact λ_=>rfl;exact λ_=>rfl;exact tV;((focus (simp;done)));((focus (simp;done)));rfl;intro id' hid')|apply ldR pk;rfl;rfl;rotate_left;rfl;exact hbx _;rfl;rfl|apply stR pk;rfl;rfl;exact (aD (λe=>Option.some_ne_none _ ((hbx _).symm.trans ((congrArg (upd S idl _) e).trans hid')))).trans (hbx _);rfl;rfl)
    obtain ⟨g1,g2⟩:=hfin _ id' _ hid' (.inl rfl)
    subst hlp
    exact ⟨rfl,_,zsr _,g1,g2⟩
   |some z=>
    have nz:z.1≠idl:=λe=>(hb.arr z rfl).2 (.inr e)
    have hz3:∀o,upd S idl o z.1=some (.arr 190 (z.2.map Pt.cells)):=λo=>(aD nz).trans (hb.arr z rfl).1
    have n3z:id2≠z.1:=λe=>by have h1:=hb.box;have h2:=(hb.arr z rfl).1;rw [e,h2] at h1;cases h1
    have hlz:z.2.length<=100000:=hbn
    (try apply wO pk;rfl);(repeat' first|show All _;constructor|show Imp _ _;constructor|apply wE pk;rfl;rfl|apply ldR pk;rfl;rfl;rotate_left;rfl;exact hbx _;rfl;rfl|(apply apV pk (f:=Pt.cells) (xs:=z.2) [x] 96;(iterate 9 rfl);exact hz3 _;rfl;exact λ_=>rfl;exact λ_=>rfl;exact tV;(simp only [zlc,List.length_nil];omega);(simp only [zlc,List.length_nil];omega);rfl;intro id' hid')|apply stR pk;rfl;rfl;exact (aD (λe=>Option.some_ne_none _ ((hbx _).symm.trans ((congrArg (upd S idl _) e).trans hid')))).trans ((aD n3z).trans (hbx _));rfl;rfl)
    have hg:=hfin _ id' _ hid' (.inr ⟨z,rfl,rfl⟩)
    rw [show oY (some (id',mG (some z)++[x]))= .vec id' 11 0 (z.2.length+[x].length) from by simp [oY,mG]] at hg
    obtain ⟨g1,g2⟩:=hg
    subst hlp
    exact ⟨rfl,_,zsr _,g1,g2⟩
 ·rintro idl S hidl ⟨b,hp,hb,ho⟩
  have hbx:=hb.box
  cases b with
  |none=>
   (try apply wO pk;rfl);(repeat' first|show All _;constructor|show Imp _ _;constructor|apply wE pk;rfl;rfl|((try refine aC ?_);((refine ⟨_,_,_,rfl,zwr _,zsr _, ?_⟩;(exact ⟨none,rfl,hp,λ_ e=>(by cases e),ho⟩);done)))|apply ldR pk;rfl;rfl;rotate_left;rfl;(assumption);rfl;rfl)
  |some z=>
   have hz:=hb.arr z rfl
   have hst:st z.1=none:=Decidable.byContradiction λq=>hz.2 q
   (try apply wO pk;rfl);(repeat' first|show All _;constructor|show Imp _ _;constructor|apply wE pk;rfl;rfl|((try refine aC ?_);((refine ⟨_,_,_,rfl,zwr _,zsr _, ?_⟩;(exact ⟨some z,rfl,hp,λ_ e=>(by cases e;exact ⟨hz.1,hst⟩),ho⟩);done)))|apply ldR pk;rfl;rfl;rotate_left;rfl;(assumption);rfl;rfl)
theorem apF (c:Cl) (n:Int) (d:Dt) (kn:List Int) (hl:c.parts.length<100000) (hk:kn.length<1000000000000):PF Tryz.prog 248 [.agg c.cells,(PV.val (Value.int .i64 (n))), .agg d.cells, .seq (kn.map I1)] (.agg (rA c n d kn).cells):=λst=>
 gL (sz:=11) (aCr c n d kn hl hk st) λp st' h=>by
  obtain ⟨b,rfl,h2,h3,h4⟩:=h
  have hsub:StSub st st':=λj=>by
   by_cases q:st j=none
   ·exact .inl q
   ·exact .inr (h4 j q).symm
  cases b with
  |none=>
   have e:rA c n d kn=⟨c.kind,c.val,[]⟩:=by unfold rA;rw [<-h2];rfl
   rw [e]
   exact .inr ⟨_,st,Wk.agg (.cons (zwr _) (.cons (zwr _) (.cons (zwr _) (.cons (zwr _) (.cons Wk.nil .nil))))),hsub,rfl,rfl⟩
  |some z=>
   obtain ⟨h5,h6⟩:=h3 z rfl
   have e:rA c n d kn=⟨c.kind,c.val,z.2⟩:=by unfold rA;rw [<-h2];rfl
   rw [e]
   refine .inl ⟨z.1,190,z.2.map Pt.cells,_,st,h5,qM, .agg (.cons .refl (.cons .refl (.cons .refl (.cons .refl (.cons (gJ (by simp)) .nil))))),λj=> ?_,rfl,rfl⟩
   by_cases q:j=z.1
   ·subst q;exact .inl h6
   ·rw [aD q];exact hsub j
end Go.Proofs.YtloecjjehapblaaGreatDoor
