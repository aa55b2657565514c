import Derived.Test.YtloecjjehapblaaGreatDoorOpAu
import Derived.Test.YtloecjjehapblaaGreatDoorAbsJ
import Derived.Test.YtloecjjehapblaaGreatDoorOpAb
import Derived.Test.YtloecjjehapblaaGreatDoorAbsSort
import Derived.Test.YtloecjjehapblaaGreatDoorAbsG
import Derived.Test.YtloecjjehapblaaGreatDoorOpAa
set_option linter.unusedSimpArgs false
set_option linter.unusedVariables false
namespace Go.Proofs.YtloecjjehapblaaGreatDoor
open Go Go.Abs
attribute [local irreducible] Ev PWp
set_option maxRecDepth 10000
set_option maxHeartbeats 4000000
def bF (b:Bool):PV:=(PV.val (Value.bool (b)))
def mQ (r:R2):Value:= .agg (aeP r).toArray
theorem asR :KeyOK Tryz.prog 96 mQ (λr=> .agg (r2C r)):=
 apG aF rfl rfl rfl rfl (λa b=>by
  show some (decide (a.1=b.1)&&decide (a.2=b.2))=_
  rw [Option.some.injEq,Bool.eq_iff_iff]
  simp [Prod.ext_iff]) (by kernel_rfl)
def mE (M:List R2):List (R2×Bool):=M.map λr=>(r,true)
def mM (M:List R2):AObj:= .map (aY mQ bF (mE M))
theorem agN {r:R2}:∀{M:List R2},r∈M->bX r (mE M)=some true
 |x::M,h=>by
  simp only [mE,List.map_cons,bX]
  by_cases e:r=x
  ·rw [if_pos e]
  ·rw [if_neg e];exact agN ((zmc.1 h).resolve_left e)
theorem abK {r:R2}:∀{M:List R2},r∉M->bX r (mE M)=none
 |[],_=>rfl
 |x::M,h=>by
  simp only [mE,List.map_cons,bX]
  rw [if_neg (λe=>h (by simp [e]))]
  exact abK λhm=>h (by simp [hm])
theorem aiL {r:R2}:∀{M:List R2},r∉M->cW r true (mE M)=mE (M++[r])
 |[],_=>rfl
 |x::M,h=>by
  simp only [mE,List.map_cons,List.cons_append,cW]
  rw [if_neg (λe=>h (by simp [e]))]
  exact congrArg _ (aiL λhm=>h (by simp [hm]))
theorem aEO {F:R2->List R2->List R2} {col key:Int} {k y:Nat} {ls:List Ln} {M:List R2} (h:y<ls.length):goL F col key k (ls.take (y+1)) M=if ptP ls[y] col=some key then F ((k:Int),ls[y].key) (goL F col key k (ls.take y) M) else goL F col key k (ls.take y) M:=by
 unfold goL
 rw [List.take_succ_eq_append_getElem h,List.foldl_append];rfl
theorem aFq {F:R2->List R2->List R2} {s:Sc} {b:Bs} {key:Int} {i:Nat} {ks:List (Nat×Nat)} {M:List R2} (h:i<ks.length):goK F s b key (ks.take (i+1)) M=if s[ks[i].1]!.foreign[ks[i].2]!.act=1 then goL F s[ks[i].1]!.foreign[ks[i].2]!.col key ks[i].1 b[ks[i].1]!.lines (goK F s b key (ks.take i) M) else goK F s b key (ks.take i) M:=by
 unfold goK
 rw [List.take_succ_eq_append_getElem h,List.foldl_append];rfl
structure Fol (s:Sc) (b:Bs):Prop where
 len:b.length=s.length
 s16:s.length<=16
 f16:∀k (h:k<s.length),s[k].foreign.length<=16
 reg:∀k (h:k<s.length),∀f∈s[k].foreign,∀l∈b[k]!.lines,xF l f.col
 lns:∀k (h:k<b.length),b[k].lines.length<1000000000000
structure KS (s:Sc) (b:Bs) (id9 id4 id5 id10 idm:Nat) (S:aJ):Prop where
 h9:S id9=some (.cells 310 [.mref idm])
 h4:S id4=some (.cells 24 (scC s))
 h5:S id5=some (.cells 27 (bsC b))
 h10:S id10=some (.cells 378 [.fn 309 [.ref id9 0, .ref id4 0, .ref id5 0, .ref id10 0]])
 n9:id9≠idm
 n4:id4≠idm
 n5:id5≠idm
 n10:id10≠idm
theorem atO {s:Sc} {b:Bs} (hFo:Fol s b) {id9 id4 id5 id10 idm:Nat} {S:aJ} (hK:KS s b id9 id4 id5 id10 idm S):∀(n:Nat) (row:R2) (M:List R2),row∈cC b->M.Nodup->(∀y∈M,y∈cC b)->(cC b).length+1<=n+M.length->
  PC Tryz.prog 309 [.agg (r2C row), .ref id9 0, .ref id4 0, .ref id5 0, .ref id10 0] (upd S idm (some (mM M))) λ_ S'=>S'=upd S idm (some (mM (gR s b n row M))):=by
 obtain ⟨h9,h4,h5,h10,n9,n4,n5,n10⟩:=hK
 obtain ⟨hlen,s16,f16,hreg,hlns⟩:=hFo
 intro n
 induction n with
 |zero=>intro row M hr hn ha hN;exact absurd (sH hn ha) (by omega)
 |succ n ih=>
 intro row M hrow hn ha hN
 by_cases hm:row∈M
 ·have hg:=agN hm
  have e:gR s b (n+1) row M=M:=if_pos hm
  rw [e]
  refine bZ aF Tryz.func309 (by kernel_rfl) rfl rfl rfl rfl ?_
  (try apply wO pk;rfl);(repeat' first|apply aGt pk asR (f:=bF);(iterate 5 rfl);rotate_left;rfl;exact aB _ _ _;rfl;exact hg|show All _;constructor|show Imp _ _;constructor|apply wE pk;rfl;rfl|refine aA rfl ?_ ?_<;>intro h<;>(try simp at h)<;>try omega|(try refine aC ?_);((refine ⟨_,_,_,rfl,zwr _,zsr _, ?_⟩;(rfl);done))|apply ldR pk;rfl;rfl;rotate_left;rfl;((focus ((repeat (first|assumption|refine (aD ‹_›).trans ?_));done)));rfl;rfl)
 ·have hg:=abK hm
  have e:gR s b (n+1) row M=goK (gR s b n) s b row.2 (eR s row.1) (M++[row]):=if_neg hm
  rw [e]
  have hks:=auN s row.1 s16 f16
  have hn2:(M++[row]).Nodup:=by
   rw [List.nodup_append]
   exact ⟨hn,by simp,λy hy z hz e=>hm (by rw [List.mem_singleton.1 hz] at e;exact e▸hy)⟩
  have ha2:∀y∈M++[row],y∈cC b:=λy hy=>by
   rcases zma.1 hy with q|q
   ·exact ha y q
   ·rw [List.mem_singleton.1 q];exact hrow
  have hml:(M++[row]).length=M.length+1:=by simp
  have hF:∀x L,x∈cC b->L.Nodup->(∀y∈L,y∈cC b)->(cC b).length+1-n<=L.length->Tk s b (· =x) L (gR s b n x L):=λx L q1 q2 q3 q4=>abO hlen n x L q1 q2 q3 (by omega)
  have hkb:∀x∈eR s row.1,x.1<b.length:=λx hx=>by rw [hlen];exact (lZ.1 hx).1
  have hkl:(eR s row.1).length<=256:=Nat.le_trans (zU s row.1 f16 s.length (Nat.le_refl _)) (by omega)
  have hsub:StSub (upd S idm (some (mM (goK (gR s b n) s b row.2 ((eR s row.1).take 0) (M++[row]))))) (upd (upd S idm (some (mM M))) idm (some (.map (aY mQ bF (cW row true (mE M)))))):=by
   rw [aiL hm,fF];exact eY rfl
  refine bZ aF Tryz.func309 (by kernel_rfl) rfl rfl rfl rfl ?_
  focus ((try apply wO pk;rfl);(repeat' first|apply aGt pk asR (f:=bF);(iterate 5 rfl);rotate_left;rfl;exact aB _ _ _;rfl;exact hg|apply muA pk asR (f:=bF);(exact .inr rfl);(iterate 5 rfl);exact aB _ _ _;rfl|show All _;constructor|show Imp _ _;constructor|apply wC pk;rfl;rfl|apply wE pk;rfl;rfl|refine aA rfl ?_ ?_<;>intro h<;>(try simp at h)<;>try omega|(apply aH;rfl;rfl;rfl;(intro _;apply hks<;>first|assumption|omega);rotate_left;rfl;rfl)|apply ldR pk;rfl;rfl;rotate_left;rfl;((focus ((repeat (first|assumption|refine (aD ‹_›).trans ?_));done)));rfl;rfl|apply sT pk 0;(iterate 5 rfl);(focus repeat' constructor);rfl;(intro _;rfl);(intro _;omega);rfl))
  refine aK (X:={x:Nat//x<=(eR s row.1).length}) (λi=>((((((((St.nil 76 (upd S idm (some (mM (goK (gR s b n) s b row.2 ((eR s row.1).take i.1) (M++[row])))))).pv 2 (.ref id4 0)).pv 3 (.ref id5 0)).pv 4 (.ref id10 0)).var 5 96 (r2C row)).pv 21 (.seq ((eR s row.1).map kkC))).pv 22 ((PV.val (Value.int .i64 ((((eR s row.1).map kkC).length:Nat)))))).pv 23 ((PV.val (Value.int .i64 ((i.1:Nat))))))) (λi=>(eR s row.1).length-i.1) ⟨0,by omega⟩ ?_ (λi=> ?_)
  ·(repeat (first|refine Sub.pv ?_ rfl|refine Sub.var ?_ rfl rfl));exact Sub.nil _ _ _ hsub rfl
  obtain ⟨i,hi⟩:=i
  dsimp only
  by_cases hend:(eR s row.1).length<=i
  ·rw [List.take_of_length_le hend]
   (try apply wO pk;rfl);(repeat' first|show All _;constructor|apply wC pk;rfl;rfl|apply wX pk;rfl|refine aA rfl ?_ ?_<;>intro h<;>(try simp at h)<;>try omega|(try refine aC ?_);((refine ⟨_,_,_,rfl,zwr _,zsr _, ?_⟩;(rfl);done)))
  have hil:i<(eR s row.1).length:=by omega
  have hup:=aFq (F:=gR s b n) (s:=s) (b:=b) (key:=row.2) (M:=M++[row]) hil
  have hx:=zgm hil
  obtain ⟨x1,x2,x3⟩:=lZ.1 hx
  have htk:=afA hF row.2 ((eR s row.1).take i) (M++[row]) (λx hx=>hkb x (List.mem_of_mem_take hx)) hn2 ha2 (by omega)
  have hll:=htk.len hn2
  have htn:=htk.nd
  have hta:=htk.all
  clear htk
  generalize hMi:goK (gR s b n) s b row.2 ((eR s row.1).take i) (M++[row])=Mi at*
  obtain ⟨⟨k,q⟩,hxx⟩:∃x,(eR s row.1)[i]=x:=⟨_,rfl⟩
  rw [hxx] at hup x1 x2 x3
  simp only at x1 x2 x3 hup
  have hgk:((eR s row.1).map kkC)[i]?=some (kkC (k,q)):=by rw [List.getElem?_map,List.getElem?_eq_getElem hil,hxx];rfl
  have hkbl:k<b.length:=by omega
  rw [getElem!_pos s k x1] at x2 x3 hup
  rw [getElem!_pos s[k].foreign q x2] at x3 hup
  rw [getElem!_pos b k hkbl] at hup
  have hRg:=hreg k x1 _ (zgm x2)
  rw [getElem!_pos b k hkbl] at hRg
  have hlb:=hlns k hkbl
  by_cases hact:s[k].foreign[q].act=1
  ·rw [if_pos hact] at hup
   focus ((try apply wO pk;rfl);(repeat' first|apply wD pk [] [1];kernel_rfl;rfl;rfl|show All _;constructor|show Imp _ _;constructor|apply wC pk;rfl;rfl|apply wE pk;rfl;rfl|refine aA rfl ?_ ?_<;>intro h<;>(try simp at h)<;>try omega|apply aN pk;(iterate 6 rfl);rotate_left;rfl;(first|(intro hw;rfl);(intro hw;apply hgk<;>omega);(intro _;rfl)|(intro hw;rfl);(intro hw;apply aI<;>omega);(intro _;rfl));rfl|apply ldR pk;rfl;rfl;rotate_left;rfl;((focus ((repeat (first|assumption|refine (aD ‹_›).trans ?_));done)));rfl;rfl|apply sT pk 0;(iterate 5 rfl);(focus repeat' constructor);rfl;(intro _;rfl);(intro _;omega);rfl|apply sT pk 1;(iterate 5 rfl);(focus repeat' constructor);rfl;(intro _;rfl);(intro _;omega);rfl|intros;(try simp only [zql]);omega))
   have hsub2:StSub (upd S idm (some (mM (goL (gR s b n) s[k].foreign[q].col row.2 k (b[k].lines.take 0) Mi)))) (upd S idm (some (mM Mi))):=eY rfl
   refine aK (X:={x:Nat//x<=b[k].lines.length}) (λy=>(((((((((((((St.nil 76 (upd S idm (some (mM (goL (gR s b n) s[k].foreign[q].col row.2 k (b[k].lines.take y.1) Mi))))).pv 2 (.ref id4 0)).pv 3 (.ref id5 0)).pv 4 (.ref id10 0)).var 5 96 (r2C row)).var 7 96 (kkC (k,q))).var 8 182 (s[k].foreign[q].cells)).pv 21 (.seq ((eR s row.1).map kkC))).pv 22 ((PV.val (Value.int .i64 ((((eR s row.1).map kkC).length:Nat)))))).pv 23 ((PV.val (Value.int .i64 ((i:Nat)))))).pv 47 (.seq (b[k].lines.map Ln.cells))).pv 48 ((PV.val (Value.int .i64 (((b[k].lines.map Ln.cells).length:Nat)))))).pv 49 ((PV.val (Value.int .i64 ((y.1:Nat))))))) (λy=>b[k].lines.length-y.1) ⟨0,by omega⟩ ?_ (λy=> ?_)
   ·(repeat (first|refine Sub.pv ?_ rfl|refine Sub.var ?_ rfl rfl));exact Sub.nil _ _ _ hsub2 rfl
   obtain ⟨y,hy⟩:=y
   dsimp only
   by_cases hend2:b[k].lines.length<=y
   ·rw [List.take_of_length_le hend2]
    (try apply wO pk;rfl);(repeat' first|show All _;constructor|apply wC pk;rfl;rfl|refine aA rfl ?_ ?_<;>intro h<;>(try simp at h)<;>try omega|(refine ⟨⟨i+1,by omega⟩, ?_,by simp only;omega⟩;((dsimp only;try rw [hup]));((repeat (first|refine Sub.pv ?_ rfl|refine Sub.var ?_ rfl rfl));exact Sub.nil _ _ _ (zsr _) rfl))|intros;(try simp only [zql]);omega)
   have hyl:y<b[k].lines.length:=by omega
   have hgu:=aEO (F:=gR s b n) (col:=s[k].foreign[q].col) (key:=row.2) (k:=k) (M:=Mi) hyl
   have hp:=oM b[k].lines[y] s[k].foreign[q].col (hRg _ (zgm hyl))
   have htk:=afJ hF s[k].foreign[q].col row.2 k (b[k].lines.take y) Mi (λl hl=>iL.2 ⟨k,hkbl,l,by rw [getElem!_pos b k hkbl];exact List.mem_of_mem_take hl,rfl⟩) htn hta (by omega)
   have hl2:=htk.len htn
   have htn2:=htk.nd
   have hta2:=htk.all
   clear htk
   generalize hMy:goL (gR s b n) s[k].foreign[q].col row.2 k (b[k].lines.take y) Mi=My at*
   have hrow2:((k:Int),b[k].lines[y].key)∈cC b:=iL.2 ⟨k,hkbl,b[k].lines[y],by rw [getElem!_pos b k hkbl];exact zgm hyl,rfl⟩
   have hC:=ih ((k:Int),b[k].lines[y].key) My hrow2 htn2 hta2 (by omega)
   cases hpt:ptP b[k].lines[y] s[k].foreign[q].col with
   |none=>
    rw [hpt] at hp hgu
    rw [if_neg (by simp)] at hgu
    (try apply wO pk;rfl);(repeat' first|show All _;constructor|show Imp _ _;constructor|show ImpX _ _ _ _;constructor|apply wC pk;rfl;rfl|apply wE pk;rfl;rfl|refine aA rfl ?_ ?_<;>intro h<;>(try simp at h)<;>try omega|(apply aH;rfl;rfl;rfl;(intro _;apply hp<;>first|assumption|omega);rotate_left;rfl;rfl)|apply aN pk;(iterate 6 rfl);rotate_left;rfl;(intro hw;rfl);(intro hw;apply aI<;>omega);(intro _;rfl);rfl|apply sT pk 1;(iterate 5 rfl);(focus repeat' constructor);rfl;(intro _;rfl);(intro _;omega);rfl|(refine ⟨⟨y+1,by omega⟩, ?_,by simp only;omega⟩;((dsimp only;try rw [hgu]));(((repeat (first|refine Sub.pv ?_ rfl|refine Sub.var ?_ rfl rfl));(exact Sub.nil _ _ _ (zsr _) rfl))))|intros;(try simp only [zql]);omega)
   |some v=>
    rw [hpt] at hp hgu
    by_cases hv:v=row.2
    ·subst hv
     rw [if_pos rfl] at hgu
     (try apply wO pk;rfl);(repeat' first|show All _;constructor|show Imp _ _;constructor|show ImpX _ _ _ _;constructor|apply wC pk;rfl;rfl|apply wE pk;rfl;rfl|refine aA rfl ?_ ?_<;>intro h<;>(try simp at h)<;>try omega|(apply aH;rfl;rfl;rfl;(intro _;apply hp<;>first|assumption|omega);rotate_left;rfl;rfl)|apply aN pk;(iterate 6 rfl);rotate_left;rfl;(intro hw;rfl);(intro hw;apply aI<;>omega);(intro _;rfl);rfl|apply ldR pk;rfl;rfl;rotate_left;rfl;((focus ((repeat (first|assumption|refine (aD ‹_›).trans ?_));done)));rfl;rfl|(apply cB;rfl;rfl;(apply hC<;>first|exact aB _ _ _|assumption|omega|(fail));rfl;rfl;rfl;intro _ st' hR;obtain rfl:=hR)|apply sT pk 0;(iterate 5 rfl);(focus repeat' constructor);rfl;(intro _;rfl);(intro _;omega);rfl|apply sT pk 1;(iterate 5 rfl);(focus repeat' constructor);rfl;(intro _;rfl);(intro _;omega);rfl|(refine ⟨⟨y+1,by omega⟩, ?_,by simp only;omega⟩;((dsimp only;try rw [hgu]));(((repeat (first|refine Sub.pv ?_ rfl|refine Sub.var ?_ rfl rfl));(exact Sub.nil _ _ _ (zsr _) rfl))))|intros;(try simp only [zql]);omega)
    ·rw [if_neg (by simpa using hv)] at hgu
     (try apply wO pk;rfl);(repeat' first|show All _;constructor|show Imp _ _;constructor|show ImpX _ _ _ _;constructor|apply wC pk;rfl;rfl|apply wE pk;rfl;rfl|refine aA rfl ?_ ?_<;>intro h<;>(try simp at h)<;>try omega|(apply aH;rfl;rfl;rfl;(intro _;apply hp<;>first|assumption|omega);rotate_left;rfl;rfl)|apply aN pk;(iterate 6 rfl);rotate_left;rfl;(intro hw;rfl);(intro hw;apply aI<;>omega);(intro _;rfl);rfl|apply sT pk 1;(iterate 5 rfl);(focus repeat' constructor);rfl;(intro _;rfl);(intro _;omega);rfl|(refine ⟨⟨y+1,by omega⟩, ?_,by simp only;omega⟩;((dsimp only;try rw [hgu]));(((repeat (first|refine Sub.pv ?_ rfl|refine Sub.var ?_ rfl rfl));(exact Sub.nil _ _ _ (zsr _) rfl))))|intros;(try simp only [zql]);omega)
  ·rw [if_neg hact] at hup
   (try apply wO pk;rfl);(repeat' first|apply wD pk [] [1];kernel_rfl;rfl;rfl|show All _;constructor|show Imp _ _;constructor|apply wC pk;rfl;rfl|apply wE pk;rfl;rfl|refine aA rfl ?_ ?_<;>intro h<;>(try simp at h)<;>try omega|apply aN pk;(iterate 6 rfl);rotate_left;rfl;(first|(intro hw;rfl);(intro hw;apply hgk<;>omega);(intro _;rfl)|(intro hw;rfl);(intro hw;apply aI<;>omega);(intro _;rfl));rfl|apply ldR pk;rfl;rfl;rotate_left;rfl;((focus ((repeat (first|assumption|refine (aD ‹_›).trans ?_));done)));rfl;rfl|apply sT pk 0;(iterate 5 rfl);(focus repeat' constructor);rfl;(intro _;rfl);(intro _;omega);rfl|apply sT pk 1;(iterate 5 rfl);(focus repeat' constructor);rfl;(intro _;rfl);(intro _;omega);rfl|(refine ⟨⟨i+1,by omega⟩, ?_,by simp only;omega⟩;((dsimp only;try rw [hup]));(((repeat (first|refine Sub.pv ?_ rfl|refine Sub.var ?_ rfl rfl));(exact Sub.nil _ _ _ (zsr _) rfl))))|intros;(try simp only [zql]);omega)
def acK (b:Bs) (z:R2):Bool:=(eH (aO b z.1) z.2).isSome
theorem akH {b:Bs} {z:R2}:acK b z=true↔z∈cC b:=by
 unfold acK
 rw [iL]
 constructor
 ·intro h
  obtain ⟨x,hx⟩:=Option.isSome_iff_exists.1 h
  have h1:=List.mem_of_find?_eq_some hx
  have h2:x.key=z.2:=by simpa using List.find?_some hx
  cases hk:okT b z.1 with
  |false=>rw [ajU hk] at h1;cases h1
  |true=>
   have e:aO b z.1=b[z.1.toNat]!.lines:=by unfold aO;rw [if_pos hk]
   simp only [okT,zba,zde] at hk
   rw [e] at h1
   exact ⟨z.1.toNat,by omega,x,h1,Prod.ext (by show z.1=_;omega) h2.symm⟩
 ·rintro ⟨k,hk,l,hl,rfl⟩
  have e:aO b (k:Int)=b[k]!.lines:=by
   unfold aO
   rw [if_pos (by simp [okT];omega),Int.toNat_natCast]
  show (eH (aO b (k:Int)) l.key).isSome=true
  rw [e]
  unfold eH
  rw [List.find?_isSome]
  exact ⟨l,hl,by simp⟩
def sX (s:Sc) (b:Bs) (z:R2):List R2:=if acK b z=true then avP s b z else []
def aDx (s:Sc) (b:Bs) (z:R2):PV:= .fmap (aY mQ bF (mE (sX s b z)))
theorem abP {st:aJ} {i j k l m:Nat} {a b c d:AObj} (h1:st i=none) (h2:upd st i (some a) j=none) (h3:upd (upd st i (some a)) j (some b) k=none) (h4:upd (upd (upd st i (some a)) j (some b)) k (some c) l=none) (h5:upd (upd (upd (upd st i (some a)) j (some b)) k (some c)) l (some d) m=none):
  (j≠i/\k≠i/\l≠i/\m≠i)/\(k≠j/\l≠j/\m≠j)/\(l≠k/\m≠k)/\m≠l/\st j=none/\st k=none/\st l=none/\st m=none:=by
 have q1:∀{f:aJ} {x y:Nat} {o:AObj},upd f x (some o) y=none->y≠x/\f y=none:=fun {f x y o} h=>by
  by_cases e:y=x
  ·rw [e,aB] at h;cases h
  ·exact ⟨e,by rwa [aD e] at h⟩
 obtain ⟨a1,a2⟩:=q1 h2
 obtain ⟨b1,b2⟩:=q1 h3
 obtain ⟨b3,b4⟩:=q1 b2
 obtain ⟨c1,c2⟩:=q1 h4
 obtain ⟨c3,c4⟩:=q1 c2
 obtain ⟨c5,c6⟩:=q1 c4
 obtain ⟨d1,d2⟩:=q1 h5
 obtain ⟨d3,d4⟩:=q1 d2
 obtain ⟨d5,d6⟩:=q1 d4
 obtain ⟨d7,d8⟩:=q1 d6
 exact ⟨⟨a1,b3,c5,d7⟩,⟨b1,c3,d5⟩,⟨c1,d3⟩,d1,a2,b4,c6,d8⟩
theorem aCK {f:aJ} {i:Nat} {x:Option AObj} (h:f i=x):upd f i x=f:=by
 funext j
 by_cases e:j=i
 ·subst e;rw [aB,h]
 ·rw [aD e]
structure KB (s:Sc) (b:Bs) (st:aJ) (idm id9 id4 id5 id10:Nat):Prop where
 one:KS s b id9 id4 id5 id10 idm (upd (upd (upd (upd (upd (upd st idm (some (mM []))) id9 (some (.cells 310 [.mref idm]))) id4 (some (.cells 24 (scC s)))) id5 (some (.cells 27 (bsC b)))) id10 (some (.cells 378 [.val .nilFunc]))) id10 (some (.cells 378 [.fn 309 [.ref id9 0, .ref id4 0, .ref id5 0, .ref id10 0]])))
 two:upd (upd (upd (upd (upd (upd (upd st idm (some (mM []))) id9 (some (.cells 310 [.mref idm]))) id4 (some (.cells 24 (scC s)))) id5 (some (.cells 27 (bsC b)))) id10 (some (.cells 378 [.val .nilFunc]))) id10 (some (.cells 378 [.fn 309 [.ref id9 0, .ref id4 0, .ref id5 0, .ref id10 0]]))) idm (some (mM []))=upd (upd (upd (upd (upd (upd st idm (some (mM []))) id9 (some (.cells 310 [.mref idm]))) id4 (some (.cells 24 (scC s)))) id5 (some (.cells 27 (bsC b)))) id10 (some (.cells 378 [.val .nilFunc]))) id10 (some (.cells 378 [.fn 309 [.ref id9 0, .ref id4 0, .ref id5 0, .ref id10 0]]))
 three:(upd (upd (upd (upd (upd (upd st idm (some (mM []))) id9 (some (.cells 310 [.mref idm]))) id4 (some (.cells 24 (scC s)))) id5 (some (.cells 27 (bsC b)))) id10 (some (.cells 378 [.val .nilFunc]))) id10 (some (.cells 378 [.fn 309 [.ref id9 0, .ref id4 0, .ref id5 0, .ref id10 0]]))) idm=some (mM [])
theorem aD1 (s:Sc) (b:Bs) (st:aJ) {idm id9 id4 id5 id10:Nat} (m1:id9≠idm) (m2:id4≠idm) (m3:id5≠idm) (m4:id10≠idm) (m5:id4≠id9) (m6:id5≠id9) (m7:id10≠id9) (m8:id5≠id4) (m9:id10≠id4) (m10:id10≠id5):KB s b st idm id9 id4 id5 id10:=by
 have h3:(upd (upd (upd (upd (upd (upd st idm (some (mM []))) id9 (some (.cells 310 [.mref idm]))) id4 (some (.cells 24 (scC s)))) id5 (some (.cells 27 (bsC b)))) id10 (some (.cells 378 [.val .nilFunc]))) id10 (some (.cells 378 [.fn 309 [.ref id9 0, .ref id4 0, .ref id5 0, .ref id10 0]]))) idm=some (mM []):=(aD (Ne.symm m4)).trans ((aD (Ne.symm m4)).trans ((aD (Ne.symm m3)).trans ((aD (Ne.symm m2)).trans ((aD (Ne.symm m1)).trans (aB _ _ _)))))
 exact ⟨⟨(aD (Ne.symm m7)).trans ((aD (Ne.symm m7)).trans ((aD (Ne.symm m6)).trans ((aD (Ne.symm m5)).trans (aB _ _ _)))),(aD (Ne.symm m9)).trans ((aD (Ne.symm m9)).trans ((aD (Ne.symm m8)).trans (aB _ _ _))),(aD (Ne.symm m10)).trans ((aD (Ne.symm m10)).trans (aB _ _ _)),aB _ _ _,m1,m2,m3,m4⟩,aCK h3,h3⟩
theorem aBl {s:Sc} {b:Bs} {st:aJ} {idm id9 id4 id5 id10:Nat} {x:Option AObj} (h0:st idm=none) (h9:st id9=none) (h4:st id4=none) (h5:st id5=none) (h10:st id10=none):StSub st (upd (upd (upd (upd (upd (upd (upd (upd st idm (some (mM []))) id9 (some (.cells 310 [.mref idm]))) id4 (some (.cells 24 (scC s)))) id5 (some (.cells 27 (bsC b)))) id10 (some (.cells 378 [.val .nilFunc]))) id10 (some (.cells 378 [.fn 309 [.ref id9 0, .ref id4 0, .ref id5 0, .ref id10 0]]))) idm x) idm none):=λj=>by
 cases hj:st j with
 |none=>exact .inl rfl
 |some o=>
  right
  have q:∀{i:Nat},st i=none->j≠i:=fun {i} hi e=>by subst e;rw [hi] at hj;cases hj
  rw [aD (q h0),aD (q h0),aD (q h10),aD (q h10),aD (q h5),aD (q h4),aD (q h9),aD (q h0),hj]
theorem ahL {s:Sc} {b:Bs} (hFo:Fol s b) (hl:∀d∈b,d.lines.length<100000000000) (z:R2):PF Tryz.prog 237 [.agg (scC s), .agg (bsC b),(PV.val (Value.int .i64 (z.1))),(PV.val (Value.int .i64 (z.2)))] (aDx s b z):=by
 have hg:=akM b z.1 z.2 hl
 rw [aqY] at hg
 unfold aDx sX
 by_cases hz:acK b z=true
 ·rw [if_pos hz]
  have hrow:=akH.1 hz
  unfold acK at hz
  rw [hz] at hg
  refine aG aF Tryz.func237 (by kernel_rfl) rfl rfl rfl rfl (λst=> ?_)
  focus ((try apply wO pk;rfl);(repeat' first|(apply mkM (enc:=mQ) (f:=bF);rfl;intro idm hidm)|show All _;constructor|apply wE pk;rfl;rfl|apply stR pk;rfl;rfl;(exact aB _ _ _);rfl;rfl|(apply fK 9;rfl;rfl;intro id9 hid9)|(apply fK 4;rfl;rfl;intro id4 hid4)|(apply fK 5;rfl;rfl;intro id5 hid5)|(apply fK 10;rfl;rfl;intro id10 hid10)))
  obtain ⟨⟨m1,m2,m3,m4⟩,⟨m5,m6,m7⟩,⟨m8,m9⟩,m10,f9,f4,f5,f10⟩:=abP hidm hid9 hid4 hid5 hid10
  have hm0:st idm=none:=hidm
  have hf9:st id9=none:=f9
  have hf4:st id4=none:=f4
  have hf5:st id5=none:=f5
  have hf10:st id10=none:=f10
  clear hidm hid9 hid4 hid5 hid10 f9 f4 f5 f10
  have hK:=aD1 s b st m1 m2 m3 m4 m5 m6 m7 m8 m9 m10
  have hC:=atO hFo hK.one ((cC b).length+1) z [] hrow List.nodup_nil (by simp) (by simp)
  have hS9:=hK.one.h9
  have hn5:=Ne.symm m10
  rw [hK.two] at hC
  have hsub:=aBl (s:=s) (b:=b) (x:=some (mM (gR s b ((cC b).length+1) z []))) hm0 hf9 hf4 hf5 hf10
  have hn9:=hK.one.n9
  (try apply wO pk;rfl);(repeat' first|apply uD 28;rfl;exact aB _ _ _|refine aC ?_;exact ⟨_,_,st,rfl,zwr _,hsub,rfl,rfl⟩|show All _;constructor|show Imp _ _;constructor|apply wC pk;rfl;rfl|apply wE pk;rfl;rfl|refine aA rfl ?_ ?_<;>intro h<;>(try simp at h)<;>try omega|(apply aH;rfl;rfl;rfl;(intro _;apply hg<;>first|assumption|omega);rotate_left;rfl;rfl)|apply ldR pk;rfl;rfl;rotate_left;rfl;(first|exact aB _ _ _|(focus ((repeat (first|exact aB _ _ _|assumption|refine (aD ‹_›).trans ?_));done)));rfl;rfl|(apply cB;rfl;rfl;(apply hC<;>first|exact aB _ _ _|assumption|omega|(fail));rfl;rfl;rfl;intro _ st' hR;obtain rfl:=hR))
 ·have hz2:(eH (aO b z.1) z.2).isSome=false:=by simpa [acK] using hz
  rw [if_neg hz]
  rw [hz2] at hg
  refine aG aF Tryz.func237 (by kernel_rfl) rfl rfl rfl rfl (λst=> ?_)
  focus ((try apply wO pk;rfl);(repeat' first|(apply mkM (enc:=mQ) (f:=bF);rfl;intro idm hidm)|show All _;constructor|apply wE pk;rfl;rfl|apply stR pk;rfl;rfl;(exact aB _ _ _);rfl;rfl|(apply fK 9;rfl;rfl;intro id9 hid9)|(apply fK 4;rfl;rfl;intro id4 hid4)|(apply fK 5;rfl;rfl;intro id5 hid5)|(apply fK 10;rfl;rfl;intro id10 hid10)))
  obtain ⟨⟨m1,m2,m3,m4⟩,⟨m5,m6,m7⟩,⟨m8,m9⟩,m10,f9,f4,f5,f10⟩:=abP hidm hid9 hid4 hid5 hid10
  have hm0:st idm=none:=hidm
  have hf9:st id9=none:=f9
  have hf4:st id4=none:=f4
  have hf5:st id5=none:=f5
  have hf10:st id10=none:=f10
  clear hidm hid9 hid4 hid5 hid10 f9 f4 f5 f10
  have hK:=aD1 s b st m1 m2 m3 m4 m5 m6 m7 m8 m9 m10
  have hS9:=hK.one.h9
  have hn5:=Ne.symm m10
  have hSm:=hK.three
  have hsub:=aBl (s:=s) (b:=b) (x:=some (mM [])) hm0 hf9 hf4 hf5 hf10
  rw [hK.two] at hsub
  have hn9:=hK.one.n9
  (try apply wO pk;rfl);(repeat' first|apply uD 28;rfl;exact hSm|refine aC ?_;exact ⟨_,_,st,rfl,zwr _,hsub,rfl,rfl⟩|show All _;constructor|show Imp _ _;constructor|apply wC pk;rfl;rfl|apply wE pk;rfl;rfl|refine aA rfl ?_ ?_<;>intro h<;>(try simp at h)<;>try omega|(apply aH;rfl;rfl;rfl;(intro _;apply hg<;>first|assumption|omega);rotate_left;rfl;rfl)|apply ldR pk;rfl;rfl;rotate_left;rfl;(first|assumption|(focus ((repeat (first|exact aB _ _ _|refine (aD ‹_›).trans ?_));done)));rfl;rfl)
theorem anM (l:List Cl) (st:aJ) (hl:l.length<1000000000000):PC Tryz.prog 158 [.seq (l.map Cl.cells)] st (LR 80 5 st (l.map Cl.cells)):=by
 refine bZ aF Tryz.func158 (by kernel_rfl) rfl rfl rfl rfl ?_
 (try apply wO pk;rfl);(repeat' first|show All _;constructor|apply wC pk;rfl;rfl|apply wE pk;rfl;rfl|refine aA rfl ?_ ?_<;>intro h<;>(try simp at h)<;>try omega|((try refine aC ?_);((refine ⟨_,_,_,rfl,zwr _,zsr _, ?_⟩;((first|exact .inr ⟨rfl,hb h,zsr _⟩|exact .inl ⟨id',by rw [zql],hid',aB _ _ _,cX hid'⟩));done)))|(apply ap0 pk (f:=Cl.cells) l 64;(iterate 10 rfl);exact λ_=>rfl;exact λ_=>rfl;exact aqJ;(omega);(omega);rfl;intro id' hid')|(apply aAi pk;(iterate 6 rfl);intro b hb))
theorem acX (l:List Cl) (st:aJ) (hl:l.length<1000000000000):PC Tryz.prog 158 [.seq (l.map Cl.cells)] st λp S=>∃id,p= .vec id 5 0 l.length/\st id=none/\S=upd st id (some (.arr 80 (l.map Cl.cells))):=
 vK (aaJ (anM l st hl)) λp st' ⟨id,h1,h2,h3⟩=>⟨p,st',zwr _,zsr _,id,by rw [h1,zql],h2,h3⟩
end Go.Proofs.YtloecjjehapblaaGreatDoor
