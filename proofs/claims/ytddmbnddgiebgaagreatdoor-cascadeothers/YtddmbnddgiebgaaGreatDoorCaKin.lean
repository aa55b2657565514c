import Derived.Test.YtddmbnddgiebgaaGreatDoorCaTo
import Derived.Test.YtddmbnddgiebgaaGreatDoorAbsJ
import Derived.Test.YtddmbnddgiebgaaGreatDoorBsLay
import Derived.Test.YtddmbnddgiebgaaGreatDoorAbsSort
import Derived.Test.YtddmbnddgiebgaaGreatDoorAbsG
set_option linter.unusedSimpArgs false
set_option linter.unusedVariables false
namespace Go.Proofs.YtddmbnddgiebgaaGreatDoor
open Go Go.Abs
attribute [local irreducible] Ev PWp
set_option maxRecDepth 10000
set_option maxHeartbeats 4000000
def bF (b:Bool):PV:=(PV.val (Value.bool (b)))
def eD (r:R2):Value:= .agg (qV r).toArray
theorem afN :KeyOK Tryz.prog 28 eD (fun r=> .agg (r2C r)):=
  adJ aH rfl rfl rfl rfl (fun a b=>by
    show some (decide (a.1=b.1)&&decide (a.2=b.2))=_
    rw [Option.some.injEq,Bool.eq_iff_iff]
    simp [Prod.ext_iff]) (by kernel_rfl)
def mE (M:List R2):List (R2×Bool):=M.map fun r=>(r,true)
def mM (M:List R2):AObj:= .map (aV eD bF (mE M))
theorem xP {r:R2}:∀{M:List R2},r∈M→dH r (mE M)=some true
  |x::M,h=>by
    simp only [mE,List.map_cons,dH]
    by_cases e:r=x
    · rw [if_pos e]
    · rw [if_neg e];exact xP ((List.mem_cons.1 h).resolve_left e)
theorem tQ {r:R2}:∀{M:List R2},r∉M→dH r (mE M)=none
  |[],_=>rfl
  |x::M,h=>by
    simp only [mE,List.map_cons,dH]
    rw [if_neg (fun e=>h (by simp [e]))]
    exact tQ fun hm=>h (by simp [hm])
theorem zA {r:R2}:∀{M:List R2},r∉M→dF r true (mE M)=mE (M++[r])
  |[],_=>rfl
  |x::M,h=>by
    simp only [mE,List.map_cons,List.cons_append,dF]
    rw [if_neg (fun e=>h (by simp [e]))]
    exact congrArg _ (zA fun hm=>h (by simp [hm]))
theorem asC {F:R2→List R2→List R2} {col key:Int} {k y:Nat} {ls:List Ln} {M:List R2} (h:y<ls.length):goL F col key k (ls.take (y+1)) M=if ptP ls[y] col=some key then F ((k:Int),ls[y].key) (goL F col key k (ls.take y) M) else goL F col key k (ls.take y) M:=by
  unfold goL
  rw [List.take_succ_eq_append_getElem h,List.foldl_append];rfl
theorem asS {F:R2→List R2→List R2} {s:Sc} {b:Bs} {key:Int} {i:Nat} {ks:List (Nat×Nat)} {M:List R2} (h:i<ks.length):goK F s b key (ks.take (i+1)) M=if s[ks[i].1]!.foreign[ks[i].2]!.act=1 then goL F s[ks[i].1]!.foreign[ks[i].2]!.col key ks[i].1 b[ks[i].1]!.lines (goK F s b key (ks.take i) M) else goK F s b key (ks.take i) M:=by
  unfold goK
  rw [List.take_succ_eq_append_getElem h,List.foldl_append];rfl
structure Fol (s:Sc) (b:Bs):Prop where
  len:b.length=s.length
  s16:s.length≤16
  f16:∀k (h:k<s.length),s[k].foreign.length≤16
  reg:∀k (h:k<s.length),∀f∈s[k].foreign,∀l∈b[k]!.lines,iJ l f.col
  lns:∀k (h:k<b.length),b[k].lines.length<1000000000000
structure KS (s:Sc) (b:Bs) (id9 id4 id5 id10 idm:Nat) (S:aI):Prop where
  h9:S id9=some (.cells 81 [.mref idm])
  h4:S id4=some (.cells 24 (scC s))
  h5:S id5=some (.cells 27 (bsC b))
  h10:S id10=some (.cells 117 [.fn 58 [.ref id9 0, .ref id4 0, .ref id5 0, .ref id10 0]])
  n9:id9≠idm
  n4:id4≠idm
  n5:id5≠idm
  n10:id10≠idm
theorem agC {s:Sc} {b:Bs} (hFo:Fol s b) {id9 id4 id5 id10 idm:Nat} {S:aI} (hK:KS s b id9 id4 id5 id10 idm S):∀(n:Nat) (row:R2) (M:List R2),row∈bR b→M.Nodup→(∀y∈M,y∈bR b)→(bR b).length+1≤n+M.length→
    PC Tryz.prog 58 [.agg (r2C row), .ref id9 0, .ref id4 0, .ref id5 0, .ref id10 0] (upd S idm (some (mM M))) fun _ S'=>S'=upd S idm (some (mM (fH s b n row M))):=by
  obtain ⟨h9,h4,h5,h10,n9,n4,n5,n10⟩:=hK
  obtain ⟨hlen,s16,f16,hreg,hlns⟩:=hFo
  intro n
  induction n with
  |zero=>intro row M hr hn ha hN;exact absurd (gP hn ha) (by omega)
  |succ n ih=>
  intro row M hrow hn ha hN
  by_cases hm:row∈M
  · have hg:=xP hm
    have e:fH s b (n+1) row M=M:=if_pos hm
    rw [e]
    refine dU aH Tryz.func58 (by kernel_rfl) rfl rfl rfl rfl ?_
    (try (apply wO pk;exact rfl));(repeat' (first|((apply auK pk afN (f:=bF);(iterate 5 exact rfl);rotate_left;exact rfl;exact aA _ _ _;exact rfl;exact hg))|(show All _;constructor)|(show Imp _ _;constructor)|(show ImpX _ _ _ _;constructor)|(apply wC pk;(iterate 2 exact rfl))|(apply wE pk;(iterate 2 exact rfl))|(apply wX pk;exact rfl)|(apply wN pk;exact rfl)|(apply wDx pk;exact rfl;kernel_rfl;exact rfl;exact rfl)|(apply aC;simp only [zqt,zqf])|(refine aD rfl (fun h=> ?_) (fun h=> ?_)<;>(try simp at h)<;>try (exfalso;omega))|((try refine aF ?_);(first|(refine ⟨_,_,_,rfl,Wk.refl _,StSub.refl _, ?_⟩;(exact rfl);done)|(refine ⟨_,_, ?zs,rfl,Wk.refl _, ?zh, ?zr⟩;(case zh=>(refine aG ?_ (by assumption);(repeat refine aG ?_ (by assumption));exact StSub.refl _));(case zr=>(exact rfl)))|refine ⟨_,_,_,rfl,Wk.refl _,StSub.refl _, ?_⟩))|(apply ncA;(iterate 3 exact rfl);rotate_left;exact rfl;exact rfl)|(apply ldR pk;exact rfl;exact rfl;rotate_left;exact rfl;(focus ((repeat (first|exact aA _ _ _|assumption|refine (aB (by assumption)).trans ?_));done));exact rfl;exact rfl)|(apply stR pk;exact rfl;exact rfl;(focus ((repeat (first|exact aA _ _ _|assumption|refine (aB (by assumption)).trans ?_));done));exact rfl;exact rfl)|(intros;(try simp only [zql]);omega)))
  · have hg:=tQ hm
    have e:fH s b (n+1) row M=goK (fH s b n) s b row.2 (dW s row.1) (M++[row]):=if_neg hm
    rw [e]
    have hks:=agY s row.1 s16 f16
    have hn2:(M++[row]).Nodup:=by
      rw [List.nodup_append]
      exact ⟨hn,by simp,fun y hy z hz e=>hm (by rw [List.mem_singleton.1 hz] at e;exact e▸hy)⟩
    have ha2:∀y∈M++[row],y∈bR b:=fun y hy=>by
      rcases List.mem_append.1 hy with q|q
      · exact ha y q
      · rw [List.mem_singleton.1 q];exact hrow
    have hml:(M++[row]).length=M.length+1:=by simp
    have hF:∀x L,x∈bR b→L.Nodup→(∀y∈L,y∈bR b)→(bR b).length+1-n≤L.length→Tk s b (· =x) L (fH s b n x L):=fun x L q1 q2 q3 q4=>tX hlen n x L q1 q2 q3 (by omega)
    have hkb:∀x∈dW s row.1,x.1<b.length:=fun x hx=>by rw [hlen];exact (iU.1 hx).1
    have hkl:(dW s row.1).length≤256:=Nat.le_trans (sH s row.1 f16 s.length (Nat.le_refl _)) (by omega)
    have hsub:StSub (upd S idm (some (mM (goK (fH s b n) s b row.2 ((dW s row.1).take 0) (M++[row]))))) (upd (upd S idm (some (mM M))) idm (some (.map (aV eD bF (dF row true (mE M)))))):=by
      rw [zA hm,aO];exact aM rfl
    refine dU aH Tryz.func58 (by kernel_rfl) rfl rfl rfl rfl ?_
    focus ((try (apply wO pk;exact rfl));(repeat' (first|((apply auK pk afN (f:=bF);(iterate 5 exact rfl);rotate_left;exact rfl;exact aA _ _ _;exact rfl;exact hg))|((apply muA pk afN (f:=bF);(first|exact .inl rfl|exact .inr rfl);(iterate 5 exact rfl);exact aA _ _ _;exact rfl))|(show All _;constructor)|(show Imp _ _;constructor)|(show ImpX _ _ _ _;constructor)|(apply wC pk;(iterate 2 exact rfl))|(apply wE pk;(iterate 2 exact rfl))|(apply wX pk;exact rfl)|(apply wN pk;exact rfl)|(apply wDx pk;exact rfl;kernel_rfl;exact rfl;exact rfl)|(apply aC;simp only [zqt,zqf])|(refine aD rfl (fun h=> ?_) (fun h=> ?_)<;>(try simp at h)<;>try (exfalso;omega))|((try refine aF ?_);refine ⟨_,_,_,rfl,Wk.refl _,StSub.refl _, ?_⟩)|(apply aK;(iterate 3 exact rfl);(intro _;apply hks<;>first|assumption|omega);rotate_left;(iterate 2 exact rfl))|(apply dG;(iterate 3 exact rfl);(intro _;apply hks<;>first|assumption|omega);rotate_left;(iterate 2 exact rfl))|(apply ncA;(iterate 3 exact rfl);rotate_left;exact rfl;exact rfl)|(apply ldR pk;exact rfl;exact rfl;rotate_left;exact rfl;(focus ((repeat (first|exact aA _ _ _|assumption|refine (aB (by assumption)).trans ?_));done));exact rfl;exact rfl)|(apply stR pk;exact rfl;exact rfl;(focus ((repeat (first|exact aA _ _ _|assumption|refine (aB (by assumption)).trans ?_));done));exact rfl;exact rfl)|((apply eP pk 0;(iterate 5 exact rfl);(focus repeat' constructor);exact rfl;(intro _;rfl);(intro _;omega);exact rfl))|(intros;(try simp only [zql]);omega))))
    refine aP (X:={x:Nat//x≤(dW s row.1).length}) (fun i=>((((((((St.nil 76 (upd S idm (some (mM (goK (fH s b n) s b row.2 ((dW s row.1).take i.1) (M++[row])))))).pv 2 (.ref id4 0)).pv 3 (.ref id5 0)).pv 4 (.ref id10 0)).var 5 28 (r2C row)).pv 21 (.seq ((dW s row.1).map kkC))).pv 22 ((PV.val (Value.int .i64 ((((dW s row.1).map kkC).length:Nat)))))).pv 23 ((PV.val (Value.int .i64 ((i.1:Nat))))))) (fun i=>(dW s row.1).length-i.1) ⟨0,by omega⟩ ?_ (fun i=> ?_)
    · (repeat (first|refine Sub.pv ?_ rfl|refine Sub.var ?_ rfl rfl));exact Sub.nil _ _ _ hsub rfl
    obtain ⟨i,hi⟩:=i
    dsimp only
    by_cases hend:(dW s row.1).length≤i
    · rw [List.take_of_length_le hend]
      (try (apply wO pk;exact rfl));(repeat' (first|(show All _;constructor)|(show Imp _ _;constructor)|(show ImpX _ _ _ _;constructor)|(apply wC pk;(iterate 2 exact rfl))|(apply wE pk;(iterate 2 exact rfl))|(apply wX pk;exact rfl)|(apply wN pk;exact rfl)|(apply wDx pk;exact rfl;kernel_rfl;exact rfl;exact rfl)|(apply aC;simp only [zqt,zqf])|(refine aD rfl (fun h=> ?_) (fun h=> ?_)<;>(try simp at h)<;>try (exfalso;omega))|((try refine aF ?_);(first|(refine ⟨_,_,_,rfl,Wk.refl _,StSub.refl _, ?_⟩;(exact rfl);done)|(refine ⟨_,_, ?zs,rfl,Wk.refl _, ?zh, ?zr⟩;(case zh=>(refine aG ?_ (by assumption);(repeat refine aG ?_ (by assumption));exact StSub.refl _));(case zr=>(exact rfl)))|refine ⟨_,_,_,rfl,Wk.refl _,StSub.refl _, ?_⟩))|(apply ncA;(iterate 3 exact rfl);rotate_left;exact rfl;exact rfl)|(apply ldR pk;exact rfl;exact rfl;rotate_left;exact rfl;(focus ((repeat (first|exact aA _ _ _|assumption|refine (aB (by assumption)).trans ?_));done));exact rfl;exact rfl)|(apply stR pk;exact rfl;exact rfl;(focus ((repeat (first|exact aA _ _ _|assumption|refine (aB (by assumption)).trans ?_));done));exact rfl;exact rfl)|(intros;(try simp only [zql]);omega)))
    have hil:i<(dW s row.1).length:=by omega
    have hup:=asS (F:=fH s b n) (s:=s) (b:=b) (key:=row.2) (M:=M++[row]) hil
    have hx:=List.getElem_mem hil
    obtain ⟨x1,x2,x3⟩:=iU.1 hx
    have htk:=wJ hF row.2 ((dW s row.1).take i) (M++[row]) (fun x hx=>hkb x (List.mem_of_mem_take hx)) hn2 ha2 (by omega)
    have hll:=htk.len hn2
    have htn:=htk.nd
    have hta:=htk.all
    clear htk
    generalize hMi:goK (fH s b n) s b row.2 ((dW s row.1).take i) (M++[row])=Mi at*
    obtain ⟨⟨k,q⟩,hxx⟩:∃x,(dW s row.1)[i]=x:=⟨_,rfl⟩
    rw [hxx] at hup x1 x2 x3
    simp only at x1 x2 x3 hup
    have hgk:((dW s row.1).map kkC)[i]?=some (kkC (k,q)):=by rw [List.getElem?_map,List.getElem?_eq_getElem hil,hxx];rfl
    have hkbl:k<b.length:=by omega
    rw [getElem!_pos s k x1] at x2 x3 hup
    rw [getElem!_pos s[k].foreign q x2] at x3 hup
    rw [getElem!_pos b k hkbl] at hup
    have hRg:=hreg k x1 _ (List.getElem_mem x2)
    rw [getElem!_pos b k hkbl] at hRg
    have hlb:=hlns k hkbl
    by_cases hact:s[k].foreign[q].act=1
    · rw [if_pos hact] at hup
      focus ((try (apply wO pk;exact rfl));(repeat' (first|(apply wD pk [] [1];kernel_rfl;exact rfl;exact rfl)|(show All _;constructor)|(show Imp _ _;constructor)|(show ImpX _ _ _ _;constructor)|(apply wC pk;(iterate 2 exact rfl))|(apply wE pk;(iterate 2 exact rfl))|(apply wX pk;exact rfl)|(apply wN pk;exact rfl)|(apply wDx pk;exact rfl;kernel_rfl;exact rfl;exact rfl)|(apply aC;simp only [zqt,zqf])|(refine aD rfl (fun h=> ?_) (fun h=> ?_)<;>(try simp at h)<;>try (exfalso;omega))|((try refine aF ?_);refine ⟨_,_,_,rfl,Wk.refl _,StSub.refl _, ?_⟩)|(apply bC pk;(iterate 6 exact rfl);rotate_left;exact rfl;(first|((intro hw;exact rfl);(intro hw;apply hgk<;>omega);(intro _;exact rfl))|((intro hw;exact rfl);(intro hw;apply aJ<;>omega);(intro _;exact rfl)));exact rfl)|(apply ncA;(iterate 3 exact rfl);rotate_left;exact rfl;exact rfl)|(apply ldR pk;exact rfl;exact rfl;rotate_left;exact rfl;(focus ((repeat (first|exact aA _ _ _|assumption|refine (aB (by assumption)).trans ?_));done));exact rfl;exact rfl)|(apply stR pk;exact rfl;exact rfl;(focus ((repeat (first|exact aA _ _ _|assumption|refine (aB (by assumption)).trans ?_));done));exact rfl;exact rfl)|((apply eP pk 0;(iterate 5 exact rfl);(focus repeat' constructor);exact rfl;(intro _;rfl);(intro _;omega);exact rfl))|((apply eP pk 1;(iterate 5 exact rfl);(focus repeat' constructor);exact rfl;(intro _;rfl);(intro _;omega);exact rfl))|(intros;(try simp only [zql]);omega)|((exfalso;simp_all;done)))))
      have hsub2:StSub (upd S idm (some (mM (goL (fH s b n) s[k].foreign[q].col row.2 k (b[k].lines.take 0) Mi)))) (upd S idm (some (mM Mi))):=aM rfl
      refine aP (X:={x:Nat//x≤b[k].lines.length}) (fun y=>(((((((((((((St.nil 76 (upd S idm (some (mM (goL (fH s b n) s[k].foreign[q].col row.2 k (b[k].lines.take y.1) Mi))))).pv 2 (.ref id4 0)).pv 3 (.ref id5 0)).pv 4 (.ref id10 0)).var 5 28 (r2C row)).var 7 28 (kkC (k,q))).var 8 68 (s[k].foreign[q].cells)).pv 21 (.seq ((dW s row.1).map kkC))).pv 22 ((PV.val (Value.int .i64 ((((dW s row.1).map kkC).length:Nat)))))).pv 23 ((PV.val (Value.int .i64 ((i:Nat)))))).pv 47 (.seq (b[k].lines.map Ln.cells))).pv 48 ((PV.val (Value.int .i64 (((b[k].lines.map Ln.cells).length:Nat)))))).pv 49 ((PV.val (Value.int .i64 ((y.1:Nat))))))) (fun y=>b[k].lines.length-y.1) ⟨0,by omega⟩ ?_ (fun y=> ?_)
      · (repeat (first|refine Sub.pv ?_ rfl|refine Sub.var ?_ rfl rfl));exact Sub.nil _ _ _ hsub2 rfl
      obtain ⟨y,hy⟩:=y
      dsimp only
      by_cases hend2:b[k].lines.length≤y
      · rw [List.take_of_length_le hend2]
        (try (apply wO pk;exact rfl));(repeat' (first|(show All _;constructor)|(show Imp _ _;constructor)|(show ImpX _ _ _ _;constructor)|(apply wC pk;(iterate 2 exact rfl))|(apply wE pk;(iterate 2 exact rfl))|(apply wX pk;exact rfl)|(apply wN pk;exact rfl)|(apply wD pk [] [];kernel_rfl;exact rfl;exact rfl)|(apply aC;simp only [zqt,zqf])|(refine aD rfl (fun h=> ?_) (fun h=> ?_)<;>(try simp at h)<;>try (exfalso;omega))|(refine aF ?_;first|(refine ⟨_,_,_,rfl,Wk.refl _,StSub.refl _, ?_,rfl⟩;(first|rfl))|(refine ⟨_,_,_,rfl,Wk.refl _,aN (by assumption), ?_,rfl⟩;(first|rfl))|(refine ⟨_,_,_,rfl,Wk.soft _,StSub.refl _, ?_,rfl⟩;(first|rfl))|(refine ⟨_,_,_,rfl,Wk.soft _,aN (by assumption), ?_,rfl⟩;(first|rfl))|(refine ⟨_,_,_,rfl,Wk.refl _,StSub.refl _, ?_,rfl⟩)|(refine ⟨_,_,_,rfl,Wk.soft _,aN (by assumption), ?_,rfl⟩))|(apply bC pk;(iterate 6 exact rfl);rotate_left;exact rfl;(intro hw;exact rfl);(intro hw;apply aJ<;>omega);(intro _;exact rfl);exact rfl)|(refine ⟨⟨i+1,by omega⟩, ?_,by simp only;omega⟩;((dsimp only;try rw [hup]));((repeat (first|refine Sub.pv ?_ rfl|refine Sub.var ?_ rfl rfl));exact Sub.nil _ _ _ (StSub.refl _) rfl))|(intros;(try simp only [zql]);omega)))
      have hyl:y<b[k].lines.length:=by omega
      have hgu:=asC (F:=fH s b n) (col:=s[k].foreign[q].col) (key:=row.2) (k:=k) (M:=Mi) hyl
      have hp:=fY b[k].lines[y] s[k].foreign[q].col (hRg _ (List.getElem_mem hyl))
      have htk:=wP hF s[k].foreign[q].col row.2 k (b[k].lines.take y) Mi (fun l hl=>eM.2 ⟨k,hkbl,l,by rw [getElem!_pos b k hkbl];exact List.mem_of_mem_take hl,rfl⟩) htn hta (by omega)
      have hl2:=htk.len htn
      have htn2:=htk.nd
      have hta2:=htk.all
      clear htk
      generalize hMy:goL (fH s b n) s[k].foreign[q].col row.2 k (b[k].lines.take y) Mi=My at*
      have hrow2:((k:Int),b[k].lines[y].key)∈bR b:=eM.2 ⟨k,hkbl,b[k].lines[y],by rw [getElem!_pos b k hkbl];exact List.getElem_mem hyl,rfl⟩
      have hC:=ih ((k:Int),b[k].lines[y].key) My hrow2 htn2 hta2 (by omega)
      cases hpt:ptP b[k].lines[y] s[k].foreign[q].col with
      |none=>
        rw [hpt] at hp hgu
        rw [if_neg (by simp)] at hgu
        (try (apply wO pk;exact rfl));(repeat' (first|(show All _;constructor)|(show Imp _ _;constructor)|(show ImpX _ _ _ _;constructor)|(apply wC pk;(iterate 2 exact rfl))|(apply wE pk;(iterate 2 exact rfl))|(apply wX pk;exact rfl)|(apply wN pk;exact rfl)|(apply wDx pk;exact rfl;kernel_rfl;exact rfl;exact rfl)|(apply aC;simp only [zqt,zqf])|(refine aD rfl (fun h=> ?_) (fun h=> ?_)<;>(try simp at h)<;>try (exfalso;omega))|((try refine aF ?_);refine ⟨_,_,_,rfl,Wk.refl _,StSub.refl _, ?_⟩)|(apply aK;(iterate 3 exact rfl);(intro _;apply hp<;>first|assumption|omega);rotate_left;(iterate 2 exact rfl))|(apply dG;(iterate 3 exact rfl);(intro _;apply hp<;>first|assumption|omega);rotate_left;(iterate 2 exact rfl))|(apply bC pk;(iterate 6 exact rfl);rotate_left;exact rfl;(intro hw;exact rfl);(intro hw;apply aJ<;>omega);(intro _;exact rfl);exact rfl)|(apply ncA;(iterate 3 exact rfl);rotate_left;exact rfl;exact rfl)|(apply ldR pk;exact rfl;exact rfl;rotate_left;exact rfl;(focus ((repeat (first|exact aA _ _ _|assumption|refine (aB (by assumption)).trans ?_));done));exact rfl;exact rfl)|(apply stR pk;exact rfl;exact rfl;(focus ((repeat (first|exact aA _ _ _|assumption|refine (aB (by assumption)).trans ?_));done));exact rfl;exact rfl)|((apply eP pk 0;(iterate 5 exact rfl);(focus repeat' constructor);exact rfl;(intro _;rfl);(intro _;omega);exact rfl))|((apply eP pk 1;(iterate 5 exact rfl);(focus repeat' constructor);exact rfl;(intro _;rfl);(intro _;omega);exact rfl))|(refine ⟨⟨y+1,by omega⟩, ?_,by simp only;omega⟩;((dsimp only;try rw [hgu]));(first|exact Sub.nil _ _ _ (StSub.refl _) rfl|((repeat (first|refine Sub.pv ?_ rfl|refine Sub.var ?_ rfl rfl));(first|exact Sub.nil _ _ _ (StSub.refl _) rfl|exact Sub.nil _ _ _ (aS (by assumption)) rfl|exact Sub.nil _ _ _ (aM (by first|rfl|exact bM (by assumption)|((simp only [St.pv,St.put,St.sst,St.setv,St.nil,St.var,aO]);first|done|rfl))) rfl|(refine Sub.nil _ _ _ (aM ?_) rfl;(simp only [St.pv,St.put,St.sst,St.setv,St.nil,St.var,aO]);(rw [eJ (by assumption)]);first|done|rfl)))))|(intros;(try simp only [zql]);omega)|((exfalso;omega))))
      |some v=>
        rw [hpt] at hp hgu
        by_cases hv:v=row.2
        · subst hv
          rw [if_pos rfl] at hgu
          (try (apply wO pk;exact rfl));(repeat' (first|(show All _;constructor)|(show Imp _ _;constructor)|(show ImpX _ _ _ _;constructor)|(apply wC pk;(iterate 2 exact rfl))|(apply wE pk;(iterate 2 exact rfl))|(apply wX pk;exact rfl)|(apply wN pk;exact rfl)|(apply wDx pk;exact rfl;kernel_rfl;exact rfl;exact rfl)|(apply aC;simp only [zqt,zqf])|(refine aD rfl (fun h=> ?_) (fun h=> ?_)<;>(try simp at h)<;>try (exfalso;omega))|(refine aF ?_;first|(refine ⟨_,_,_,rfl,Wk.refl _,StSub.refl _, ?_,rfl⟩;(first|rfl))|(refine ⟨_,_,_,rfl,Wk.refl _,aN (by assumption), ?_,rfl⟩;(first|rfl))|(refine ⟨_,_,_,rfl,Wk.soft _,StSub.refl _, ?_,rfl⟩;(first|rfl))|(refine ⟨_,_,_,rfl,Wk.soft _,aN (by assumption), ?_,rfl⟩;(first|rfl))|(refine ⟨_,_,_,rfl,Wk.refl _,StSub.refl _, ?_,rfl⟩)|(refine ⟨_,_,_,rfl,Wk.soft _,aN (by assumption), ?_,rfl⟩))|(apply aK;(iterate 3 exact rfl);(intro _;apply hp<;>first|assumption|omega);rotate_left;(iterate 2 exact rfl))|(apply dG;(iterate 3 exact rfl);(intro _;apply hp<;>first|assumption|omega);rotate_left;(iterate 2 exact rfl))|(apply bC pk;(iterate 6 exact rfl);rotate_left;exact rfl;(intro hw;exact rfl);(intro hw;apply aJ<;>omega);(intro _;exact rfl);exact rfl)|(apply ncA;(iterate 3 exact rfl);rotate_left;exact rfl;exact rfl)|(apply ldR pk;exact rfl;exact rfl;rotate_left;exact rfl;(focus ((repeat (first|exact aA _ _ _|assumption|refine (aB (by assumption)).trans ?_));done));exact rfl;exact rfl)|(apply stR pk;exact rfl;exact rfl;(focus ((repeat (first|exact aA _ _ _|assumption|refine (aB (by assumption)).trans ?_));done));exact rfl;exact rfl)|(apply bZ;exact rfl;exact rfl;(apply hC<;>first|exact aA _ _ _|assumption|omega|(focus ((repeat (first|exact aA _ _ _|assumption|refine (aB (by assumption)).trans ?_));done)));(iterate 3 exact rfl);intro _ st' hR;obtain rfl:=hR)|(apply bZ;exact rfl;exact rfl;(first|(apply fail_no_spec<;>first|exact aA _ _ _|assumption|omega|(simp only [zqs];omega)|(focus ((repeat (first|exact aA _ _ _|assumption|refine (aB (by assumption)).trans ?_));done))));(iterate 3 exact rfl);intro _ st' hR;(first|subst hR|obtain ⟨rfl,rfl⟩:=hR))|((apply eP pk 0;(iterate 5 exact rfl);(focus repeat' constructor);exact rfl;(intro _;rfl);(intro _;omega);exact rfl))|((apply eP pk 1;(iterate 5 exact rfl);(focus repeat' constructor);exact rfl;(intro _;rfl);(intro _;omega);exact rfl))|(refine ⟨⟨y+1,by omega⟩, ?_,by simp only;omega⟩;((dsimp only;try rw [hgu]));(first|exact Sub.nil _ _ _ (StSub.refl _) rfl|((repeat (first|refine Sub.pv ?_ rfl|refine Sub.var ?_ rfl rfl));(first|exact Sub.nil _ _ _ (StSub.refl _) rfl|exact Sub.nil _ _ _ (aS (by assumption)) rfl|exact Sub.nil _ _ _ (aM (by first|rfl|exact bM (by assumption)|((simp only [St.pv,St.put,St.sst,St.setv,St.nil,St.var,aO]);first|done|rfl))) rfl|(refine Sub.nil _ _ _ (aM ?_) rfl;(simp only [St.pv,St.put,St.sst,St.setv,St.nil,St.var,aO]);(rw [eJ (by assumption)]);first|done|rfl)))))|(intros;(try simp only [zql]);omega)|((exfalso;simp_all;done))))
        · rw [if_neg (by simpa using hv)] at hgu
          (try (apply wO pk;exact rfl));(repeat' (first|(show All _;constructor)|(show Imp _ _;constructor)|(show ImpX _ _ _ _;constructor)|(apply wC pk;(iterate 2 exact rfl))|(apply wE pk;(iterate 2 exact rfl))|(apply wX pk;exact rfl)|(apply wN pk;exact rfl)|(apply wDx pk;exact rfl;kernel_rfl;exact rfl;exact rfl)|(apply aC;simp only [zqt,zqf])|(refine aD rfl (fun h=> ?_) (fun h=> ?_)<;>(try simp at h)<;>try (exfalso;omega))|((try refine aF ?_);refine ⟨_,_,_,rfl,Wk.refl _,StSub.refl _, ?_⟩)|(apply aK;(iterate 3 exact rfl);(intro _;apply hp<;>first|assumption|omega);rotate_left;(iterate 2 exact rfl))|(apply dG;(iterate 3 exact rfl);(intro _;apply hp<;>first|assumption|omega);rotate_left;(iterate 2 exact rfl))|(apply bC pk;(iterate 6 exact rfl);rotate_left;exact rfl;(intro hw;exact rfl);(intro hw;apply aJ<;>omega);(intro _;exact rfl);exact rfl)|(apply ncA;(iterate 3 exact rfl);rotate_left;exact rfl;exact rfl)|(apply ldR pk;exact rfl;exact rfl;rotate_left;exact rfl;(focus ((repeat (first|exact aA _ _ _|assumption|refine (aB (by assumption)).trans ?_));done));exact rfl;exact rfl)|(apply stR pk;exact rfl;exact rfl;(focus ((repeat (first|exact aA _ _ _|assumption|refine (aB (by assumption)).trans ?_));done));exact rfl;exact rfl)|((apply eP pk 0;(iterate 5 exact rfl);(focus repeat' constructor);exact rfl;(intro _;rfl);(intro _;omega);exact rfl))|((apply eP pk 1;(iterate 5 exact rfl);(focus repeat' constructor);exact rfl;(intro _;rfl);(intro _;omega);exact rfl))|(refine ⟨⟨y+1,by omega⟩, ?_,by simp only;omega⟩;((dsimp only;try rw [hgu]));(first|exact Sub.nil _ _ _ (StSub.refl _) rfl|((repeat (first|refine Sub.pv ?_ rfl|refine Sub.var ?_ rfl rfl));(first|exact Sub.nil _ _ _ (StSub.refl _) rfl|exact Sub.nil _ _ _ (aS (by assumption)) rfl|exact Sub.nil _ _ _ (aM (by first|rfl|exact bM (by assumption)|((simp only [St.pv,St.put,St.sst,St.setv,St.nil,St.var,aO]);first|done|rfl))) rfl|(refine Sub.nil _ _ _ (aM ?_) rfl;(simp only [St.pv,St.put,St.sst,St.setv,St.nil,St.var,aO]);(rw [eJ (by assumption)]);first|done|rfl)))))|(intros;(try simp only [zql]);omega)|((exfalso;simp_all;done))))
    · rw [if_neg hact] at hup
      (try (apply wO pk;exact rfl));(repeat' (first|(apply wD pk [] [1];kernel_rfl;exact rfl;exact rfl)|(show All _;constructor)|(show Imp _ _;constructor)|(show ImpX _ _ _ _;constructor)|(apply wC pk;(iterate 2 exact rfl))|(apply wE pk;(iterate 2 exact rfl))|(apply wX pk;exact rfl)|(apply wN pk;exact rfl)|(apply wDx pk;exact rfl;kernel_rfl;exact rfl;exact rfl)|(apply aC;simp only [zqt,zqf])|(refine aD rfl (fun h=> ?_) (fun h=> ?_)<;>(try simp at h)<;>try (exfalso;omega))|((try refine aF ?_);refine ⟨_,_,_,rfl,Wk.refl _,StSub.refl _, ?_⟩)|(apply bC pk;(iterate 6 exact rfl);rotate_left;exact rfl;(first|((intro hw;exact rfl);(intro hw;apply hgk<;>omega);(intro _;exact rfl))|((intro hw;exact rfl);(intro hw;apply aJ<;>omega);(intro _;exact rfl)));exact rfl)|(apply ncA;(iterate 3 exact rfl);rotate_left;exact rfl;exact rfl)|(apply ldR pk;exact rfl;exact rfl;rotate_left;exact rfl;(focus ((repeat (first|exact aA _ _ _|assumption|refine (aB (by assumption)).trans ?_));done));exact rfl;exact rfl)|(apply stR pk;exact rfl;exact rfl;(focus ((repeat (first|exact aA _ _ _|assumption|refine (aB (by assumption)).trans ?_));done));exact rfl;exact rfl)|((apply eP pk 0;(iterate 5 exact rfl);(focus repeat' constructor);exact rfl;(intro _;rfl);(intro _;omega);exact rfl))|((apply eP pk 1;(iterate 5 exact rfl);(focus repeat' constructor);exact rfl;(intro _;rfl);(intro _;omega);exact rfl))|(refine ⟨⟨i+1,by omega⟩, ?_,by simp only;omega⟩;((dsimp only;try rw [hup]));(first|exact Sub.nil _ _ _ (StSub.refl _) rfl|((repeat (first|refine Sub.pv ?_ rfl|refine Sub.var ?_ rfl rfl));(first|exact Sub.nil _ _ _ (StSub.refl _) rfl|exact Sub.nil _ _ _ (aS (by assumption)) rfl|exact Sub.nil _ _ _ (aM (by first|rfl|exact bM (by assumption)|((simp only [St.pv,St.put,St.sst,St.setv,St.nil,St.var,aO]);first|done|rfl))) rfl|(refine Sub.nil _ _ _ (aM ?_) rfl;(simp only [St.pv,St.put,St.sst,St.setv,St.nil,St.var,aO]);(rw [eJ (by assumption)]);first|done|rfl)))))|(intros;(try simp only [zql]);omega)|((exfalso;simp_all;done))))
def eQ (b:Bs) (z:R2):Bool:=(iV (bT b z.1) z.2).isSome
theorem gC {b:Bs} {z:R2}:eQ b z=true↔z∈bR b:=by
  unfold eQ
  rw [eM]
  constructor
  · intro h
    obtain ⟨x,hx⟩:=Option.isSome_iff_exists.1 h
    have h1:=List.mem_of_find?_eq_some hx
    have h2:x.key=z.2:=by simpa using List.find?_some hx
    cases hk:okT b z.1 with
    |false=>rw [alP hk] at h1;cases h1
    |true=>
      have e:bT b z.1=b[z.1.toNat]!.lines:=by unfold bT;rw [if_pos hk]
      simp only [okT,Bool.and_eq_true,decide_eq_true_eq] at hk
      rw [e] at h1
      exact ⟨z.1.toNat,by omega,x,h1,Prod.ext (by show z.1=_;omega) h2.symm⟩
  · rintro ⟨k,hk,l,hl,rfl⟩
    have e:bT b (k:Int)=b[k]!.lines:=by
      unfold bT
      rw [if_pos (by simp [okT];omega),Int.toNat_natCast]
    show (iV (bT b (k:Int)) l.key).isSome=true
    rw [e]
    unfold iV
    rw [List.find?_isSome]
    exact ⟨l,hl,by simp⟩
def bS (s:Sc) (b:Bs) (z:R2):List R2:=if eQ b z=true then ahM s b z else []
def amW (s:Sc) (b:Bs) (z:R2):PV:= .fmap (aV eD bF (mE (bS s b z)))
theorem tY {st:aI} {i j k l m:Nat} {a b c d:AObj} (h1:st i=none) (h2:upd st i (some a) j=none) (h3:upd (upd st i (some a)) j (some b) k=none) (h4:upd (upd (upd st i (some a)) j (some b)) k (some c) l=none) (h5:upd (upd (upd (upd st i (some a)) j (some b)) k (some c)) l (some d) m=none):
    (j≠i∧k≠i∧l≠i∧m≠i)∧(k≠j∧l≠j∧m≠j)∧(l≠k∧m≠k)∧m≠l∧st j=none∧st k=none∧st l=none∧st m=none:=by
  have q1:∀{f:aI} {x y:Nat} {o:AObj},upd f x (some o) y=none→y≠x∧f y=none:=fun {f x y o} h=>by
    by_cases e:y=x
    · rw [e,aA] at h;cases h
    · exact ⟨e,by rwa [aB e] at h⟩
  obtain ⟨a1,a2⟩:=q1 h2
  obtain ⟨b1,b2⟩:=q1 h3
  obtain ⟨b3,b4⟩:=q1 b2
  obtain ⟨c1,c2⟩:=q1 h4
  obtain ⟨c3,c4⟩:=q1 c2
  obtain ⟨c5,c6⟩:=q1 c4
  obtain ⟨d1,d2⟩:=q1 h5
  obtain ⟨d3,d4⟩:=q1 d2
  obtain ⟨d5,d6⟩:=q1 d4
  obtain ⟨d7,d8⟩:=q1 d6
  exact ⟨⟨a1,b3,c5,d7⟩,⟨b1,c3,d5⟩,⟨c1,d3⟩,d1,a2,b4,c6,d8⟩
theorem apB {f:aI} {i:Nat} {x:Option AObj} (h:f i=x):upd f i x=f:=by
  funext j
  by_cases e:j=i
  · subst e;rw [aA,h]
  · rw [aB e]
structure KB (s:Sc) (b:Bs) (st:aI) (idm id9 id4 id5 id10:Nat):Prop where
  one:KS s b id9 id4 id5 id10 idm (upd (upd (upd (upd (upd (upd st idm (some (mM []))) id9 (some (.cells 81 [.mref idm]))) id4 (some (.cells 24 (scC s)))) id5 (some (.cells 27 (bsC b)))) id10 (some (.cells 117 [.val .nilFunc]))) id10 (some (.cells 117 [.fn 58 [.ref id9 0, .ref id4 0, .ref id5 0, .ref id10 0]])))
  two:upd (upd (upd (upd (upd (upd (upd st idm (some (mM []))) id9 (some (.cells 81 [.mref idm]))) id4 (some (.cells 24 (scC s)))) id5 (some (.cells 27 (bsC b)))) id10 (some (.cells 117 [.val .nilFunc]))) id10 (some (.cells 117 [.fn 58 [.ref id9 0, .ref id4 0, .ref id5 0, .ref id10 0]]))) idm (some (mM []))=upd (upd (upd (upd (upd (upd st idm (some (mM []))) id9 (some (.cells 81 [.mref idm]))) id4 (some (.cells 24 (scC s)))) id5 (some (.cells 27 (bsC b)))) id10 (some (.cells 117 [.val .nilFunc]))) id10 (some (.cells 117 [.fn 58 [.ref id9 0, .ref id4 0, .ref id5 0, .ref id10 0]]))
  three:(upd (upd (upd (upd (upd (upd st idm (some (mM []))) id9 (some (.cells 81 [.mref idm]))) id4 (some (.cells 24 (scC s)))) id5 (some (.cells 27 (bsC b)))) id10 (some (.cells 117 [.val .nilFunc]))) id10 (some (.cells 117 [.fn 58 [.ref id9 0, .ref id4 0, .ref id5 0, .ref id10 0]]))) idm=some (mM [])
theorem arG (s:Sc) (b:Bs) (st:aI) {idm id9 id4 id5 id10:Nat} (m1:id9≠idm) (m2:id4≠idm) (m3:id5≠idm) (m4:id10≠idm) (m5:id4≠id9) (m6:id5≠id9) (m7:id10≠id9) (m8:id5≠id4) (m9:id10≠id4) (m10:id10≠id5):KB s b st idm id9 id4 id5 id10:=by
  have h3:(upd (upd (upd (upd (upd (upd st idm (some (mM []))) id9 (some (.cells 81 [.mref idm]))) id4 (some (.cells 24 (scC s)))) id5 (some (.cells 27 (bsC b)))) id10 (some (.cells 117 [.val .nilFunc]))) id10 (some (.cells 117 [.fn 58 [.ref id9 0, .ref id4 0, .ref id5 0, .ref id10 0]]))) idm=some (mM []):=(aB (Ne.symm m4)).trans ((aB (Ne.symm m4)).trans ((aB (Ne.symm m3)).trans ((aB (Ne.symm m2)).trans ((aB (Ne.symm m1)).trans (aA _ _ _)))))
  exact ⟨⟨(aB (Ne.symm m7)).trans ((aB (Ne.symm m7)).trans ((aB (Ne.symm m6)).trans ((aB (Ne.symm m5)).trans (aA _ _ _)))),(aB (Ne.symm m9)).trans ((aB (Ne.symm m9)).trans ((aB (Ne.symm m8)).trans (aA _ _ _))),(aB (Ne.symm m10)).trans ((aB (Ne.symm m10)).trans (aA _ _ _)),aA _ _ _,m1,m2,m3,m4⟩,apB h3,h3⟩
theorem amQ {s:Sc} {b:Bs} {st:aI} {idm id9 id4 id5 id10:Nat} {x:Option AObj} (h0:st idm=none) (h9:st id9=none) (h4:st id4=none) (h5:st id5=none) (h10:st id10=none):StSub st (upd (upd (upd (upd (upd (upd (upd (upd st idm (some (mM []))) id9 (some (.cells 81 [.mref idm]))) id4 (some (.cells 24 (scC s)))) id5 (some (.cells 27 (bsC b)))) id10 (some (.cells 117 [.val .nilFunc]))) id10 (some (.cells 117 [.fn 58 [.ref id9 0, .ref id4 0, .ref id5 0, .ref id10 0]]))) idm x) idm none):=fun j=>by
  cases hj:st j with
  |none=>exact .inl rfl
  |some o=>
    right
    have q:∀{i:Nat},st i=none→j≠i:=fun {i} hi e=>by subst e;rw [hi] at hj;cases hj
    rw [aB (q h0),aB (q h0),aB (q h10),aB (q h10),aB (q h5),aB (q h4),aB (q h9),aB (q h0),hj]
theorem rU {s:Sc} {b:Bs} (hFo:Fol s b) (hl:∀d∈b,d.lines.length<100000000000) (z:R2):PF Tryz.prog 28 [.agg (scC s), .agg (bsC b),(PV.val (Value.int .i64 (z.1))),(PV.val (Value.int .i64 (z.2)))] (amW s b z):=by
  have hg:=tG b z.1 z.2 hl
  rw [aeK] at hg
  unfold amW bS
  by_cases hz:eQ b z=true
  · rw [if_pos hz]
    have hrow:=gC.1 hz
    unfold eQ at hz
    rw [hz] at hg
    refine aL aH Tryz.func28 (by kernel_rfl) rfl rfl rfl rfl (fun st=> ?_)
    focus ((try (apply wO pk;exact rfl));(repeat' (first|((apply mkM (enc:=eD) (f:=bF);exact rfl;intro idm hidm))|(show All _;constructor)|(show Imp _ _;constructor)|(show ImpX _ _ _ _;constructor)|(apply wC pk;(iterate 2 exact rfl))|(apply wE pk;(iterate 2 exact rfl))|(apply wX pk;exact rfl)|(apply wN pk;exact rfl)|(apply wDx pk;exact rfl;kernel_rfl;exact rfl;exact rfl)|(apply aC;simp only [zqt,zqf])|(refine aD rfl (fun h=> ?_) (fun h=> ?_)<;>(try simp at h)<;>try (exfalso;omega))|((try refine aF ?_);refine ⟨_,_,_,rfl,Wk.refl _,StSub.refl _, ?_⟩)|(apply aK;(iterate 3 exact rfl);(intro _;apply hg<;>first|assumption|omega);rotate_left;(iterate 2 exact rfl))|(apply dG;(iterate 3 exact rfl);(intro _;apply hg<;>first|assumption|omega);rotate_left;(iterate 2 exact rfl))|(apply ncA;(iterate 3 exact rfl);rotate_left;exact rfl;exact rfl)|(apply ldR pk;exact rfl;exact rfl;rotate_left;exact rfl;(focus ((repeat (first|exact aA _ _ _|assumption|refine (aB (by assumption)).trans ?_));done));exact rfl;exact rfl)|(apply stR pk;exact rfl;exact rfl;(focus ((repeat (first|exact aA _ _ _|assumption|refine (aB (by assumption)).trans ?_));done));exact rfl;exact rfl)|(apply eH 9;exact rfl;exact rfl;intro id9 hid9)|(apply eH 4;exact rfl;exact rfl;intro id4 hid4)|(apply eH 5;exact rfl;exact rfl;intro id5 hid5)|(apply eH 10;exact rfl;exact rfl;intro id10 hid10)|(intros;(try simp only [zql]);omega))))
    obtain ⟨⟨m1,m2,m3,m4⟩,⟨m5,m6,m7⟩,⟨m8,m9⟩,m10,f9,f4,f5,f10⟩:=tY hidm hid9 hid4 hid5 hid10
    have hm0:st idm=none:=hidm
    have hf9:st id9=none:=f9
    have hf4:st id4=none:=f4
    have hf5:st id5=none:=f5
    have hf10:st id10=none:=f10
    clear hidm hid9 hid4 hid5 hid10 f9 f4 f5 f10
    have hK:=arG s b st m1 m2 m3 m4 m5 m6 m7 m8 m9 m10
    have hC:=agC hFo hK.one ((bR b).length+1) z [] hrow List.nodup_nil (by simp) (by simp)
    have hS9:=hK.one.h9
    have hn5:=Ne.symm m10
    rw [hK.two] at hC
    have hsub:=amQ (s:=s) (b:=b) (x:=some (mM (fH s b ((bR b).length+1) z []))) hm0 hf9 hf4 hf5 hf10
    have hn9:=hK.one.n9
    (try (apply wO pk;exact rfl));(repeat' (first|((apply oN 28;exact rfl;exact aA _ _ _))|((refine aF ?_;exact ⟨_,_,st,rfl,Wk.refl _,hsub,rfl,rfl⟩))|(show All _;constructor)|(show Imp _ _;constructor)|(show ImpX _ _ _ _;constructor)|(apply wC pk;(iterate 2 exact rfl))|(apply wE pk;(iterate 2 exact rfl))|(apply wX pk;exact rfl)|(apply wN pk;exact rfl)|(apply wDx pk;exact rfl;kernel_rfl;exact rfl;exact rfl)|(apply aC;simp only [zqt,zqf])|(refine aD rfl (fun h=> ?_) (fun h=> ?_)<;>(try simp at h)<;>try (exfalso;omega))|(refine aF ?_;first|(refine ⟨_,_,_,rfl,Wk.refl _,StSub.refl _, ?_,rfl⟩;(first|rfl))|(refine ⟨_,_,_,rfl,Wk.refl _,aN (by assumption), ?_,rfl⟩;(first|rfl))|(refine ⟨_,_,_,rfl,Wk.soft _,StSub.refl _, ?_,rfl⟩;(first|rfl))|(refine ⟨_,_,_,rfl,Wk.soft _,aN (by assumption), ?_,rfl⟩;(first|rfl))|(refine ⟨_,_,_,rfl,Wk.refl _,StSub.refl _, ?_,rfl⟩)|(refine ⟨_,_,_,rfl,Wk.soft _,aN (by assumption), ?_,rfl⟩))|(apply aK;(iterate 3 exact rfl);(intro _;apply hg<;>first|assumption|omega);rotate_left;(iterate 2 exact rfl))|(apply dG;(iterate 3 exact rfl);(intro _;apply hg<;>first|assumption|omega);rotate_left;(iterate 2 exact rfl))|(apply ncA;(iterate 3 exact rfl);rotate_left;exact rfl;exact rfl)|(apply ldR pk;exact rfl;exact rfl;rotate_left;exact rfl;(focus ((repeat (first|exact aA _ _ _|assumption|refine (aB (by assumption)).trans ?_));done));exact rfl;exact rfl)|(apply stR pk;exact rfl;exact rfl;(focus ((repeat (first|exact aA _ _ _|assumption|refine (aB (by assumption)).trans ?_));done));exact rfl;exact rfl)|(apply bZ;exact rfl;exact rfl;(apply hC<;>first|exact aA _ _ _|assumption|omega|(focus ((repeat (first|exact aA _ _ _|assumption|refine (aB (by assumption)).trans ?_));done)));(iterate 3 exact rfl);intro _ st' hR;obtain rfl:=hR)|(apply bZ;exact rfl;exact rfl;(first|(apply fail_no_spec<;>first|exact aA _ _ _|assumption|omega|(simp only [zqs];omega)|(focus ((repeat (first|exact aA _ _ _|assumption|refine (aB (by assumption)).trans ?_));done))));(iterate 3 exact rfl);intro _ st' hR;(first|subst hR|obtain ⟨rfl,rfl⟩:=hR))|(intros;(try simp only [zql]);omega)))
  · have hz2:(iV (bT b z.1) z.2).isSome=false:=by simpa [eQ] using hz
    rw [if_neg hz]
    rw [hz2] at hg
    refine aL aH Tryz.func28 (by kernel_rfl) rfl rfl rfl rfl (fun st=> ?_)
    focus ((try (apply wO pk;exact rfl));(repeat' (first|((apply mkM (enc:=eD) (f:=bF);exact rfl;intro idm hidm))|(show All _;constructor)|(show Imp _ _;constructor)|(show ImpX _ _ _ _;constructor)|(apply wC pk;(iterate 2 exact rfl))|(apply wE pk;(iterate 2 exact rfl))|(apply wX pk;exact rfl)|(apply wN pk;exact rfl)|(apply wDx pk;exact rfl;kernel_rfl;exact rfl;exact rfl)|(apply aC;simp only [zqt,zqf])|(refine aD rfl (fun h=> ?_) (fun h=> ?_)<;>(try simp at h)<;>try (exfalso;omega))|((try refine aF ?_);refine ⟨_,_,_,rfl,Wk.refl _,StSub.refl _, ?_⟩)|(apply aK;(iterate 3 exact rfl);(intro _;apply hg<;>first|assumption|omega);rotate_left;(iterate 2 exact rfl))|(apply dG;(iterate 3 exact rfl);(intro _;apply hg<;>first|assumption|omega);rotate_left;(iterate 2 exact rfl))|(apply ncA;(iterate 3 exact rfl);rotate_left;exact rfl;exact rfl)|(apply ldR pk;exact rfl;exact rfl;rotate_left;exact rfl;(focus ((repeat (first|exact aA _ _ _|assumption|refine (aB (by assumption)).trans ?_));done));exact rfl;exact rfl)|(apply stR pk;exact rfl;exact rfl;(focus ((repeat (first|exact aA _ _ _|assumption|refine (aB (by assumption)).trans ?_));done));exact rfl;exact rfl)|(apply eH 9;exact rfl;exact rfl;intro id9 hid9)|(apply eH 4;exact rfl;exact rfl;intro id4 hid4)|(apply eH 5;exact rfl;exact rfl;intro id5 hid5)|(apply eH 10;exact rfl;exact rfl;intro id10 hid10)|(intros;(try simp only [zql]);omega))))
    obtain ⟨⟨m1,m2,m3,m4⟩,⟨m5,m6,m7⟩,⟨m8,m9⟩,m10,f9,f4,f5,f10⟩:=tY hidm hid9 hid4 hid5 hid10
    have hm0:st idm=none:=hidm
    have hf9:st id9=none:=f9
    have hf4:st id4=none:=f4
    have hf5:st id5=none:=f5
    have hf10:st id10=none:=f10
    clear hidm hid9 hid4 hid5 hid10 f9 f4 f5 f10
    have hK:=arG s b st m1 m2 m3 m4 m5 m6 m7 m8 m9 m10
    have hS9:=hK.one.h9
    have hn5:=Ne.symm m10
    have hSm:=hK.three
    have hsub:=amQ (s:=s) (b:=b) (x:=some (mM [])) hm0 hf9 hf4 hf5 hf10
    rw [hK.two] at hsub
    have hn9:=hK.one.n9
    (try (apply wO pk;exact rfl));(repeat' (first|((apply oN 28;exact rfl;exact hSm))|((refine aF ?_;exact ⟨_,_,st,rfl,Wk.refl _,hsub,rfl,rfl⟩))|(show All _;constructor)|(show Imp _ _;constructor)|(show ImpX _ _ _ _;constructor)|(apply wC pk;(iterate 2 exact rfl))|(apply wE pk;(iterate 2 exact rfl))|(apply wX pk;exact rfl)|(apply wN pk;exact rfl)|(apply wDx pk;exact rfl;kernel_rfl;exact rfl;exact rfl)|(apply aC;simp only [zqt,zqf])|(refine aD rfl (fun h=> ?_) (fun h=> ?_)<;>(try simp at h)<;>try (exfalso;omega))|((try refine aF ?_);refine ⟨_,_,_,rfl,Wk.refl _,StSub.refl _, ?_⟩)|(apply aK;(iterate 3 exact rfl);(intro _;apply hg<;>first|assumption|omega);rotate_left;(iterate 2 exact rfl))|(apply dG;(iterate 3 exact rfl);(intro _;apply hg<;>first|assumption|omega);rotate_left;(iterate 2 exact rfl))|(apply ncA;(iterate 3 exact rfl);rotate_left;exact rfl;exact rfl)|(apply ldR pk;exact rfl;exact rfl;rotate_left;exact rfl;(focus ((repeat (first|exact aA _ _ _|assumption|refine (aB (by assumption)).trans ?_));done));exact rfl;exact rfl)|(apply stR pk;exact rfl;exact rfl;(focus ((repeat (first|exact aA _ _ _|assumption|refine (aB (by assumption)).trans ?_));done));exact rfl;exact rfl)|(intros;(try simp only [zql]);omega)))
def afO (a b:R2):Int:=orI [eW a.1 b.1,eW a.2 b.2]
theorem acO (a b:R2):PF Tryz.prog 37 [.agg (r2C a), .agg (r2C b)] (PV.val (Value.int .i64 (afO a b))):=by
  refine aL aH Tryz.func37 (by kernel_rfl) rfl rfl rfl rfl (fun st=> ?_)
  (try (apply wO pk;exact rfl));(repeat' (first|(show All _;constructor)|(show Imp _ _;constructor)|(show ImpX _ _ _ _;constructor)|(apply wC pk;(iterate 2 exact rfl))|(apply wE pk;(iterate 2 exact rfl))|(apply wX pk;exact rfl)|(apply wN pk;exact rfl)|(apply wD pk [] [];kernel_rfl;exact rfl;exact rfl)|(apply aC;simp only [zqt,zqf])|(refine aD rfl (fun h=> ?_) (fun h=> ?_)<;>(try simp at h)<;>try (exfalso;omega))|(refine aF ?_;refine ⟨_,_,_,rfl,Wk.refl _,StSub.refl _, ?_,rfl⟩;try rfl)|(apply aK;(iterate 3 exact rfl);(intro _;(first|apply (eU a.1 b.1)|apply (eU a.2 b.2)|apply (rH [eW a.1 b.1,eW a.2 b.2] (by simp)))<;>first|assumption|omega);rotate_left;(iterate 2 exact rfl))|((apply eP pk 0;(iterate 5 exact rfl);(focus repeat' constructor);exact rfl;(intro _;rfl);(intro _;omega);exact rfl))|((apply eP pk 1;(iterate 5 exact rfl);(focus repeat' constructor);exact rfl;(intro _;rfl);(intro _;omega);exact rfl))|(intros;(try simp only [zql]);omega)))
theorem mN (a b:R2):afO a b<0↔hJ a b:=by
  unfold afO hJ
  simp only [orI,eW]
  repeat' split
  all_goals omega
theorem amU (l:List R2) {st:aI} {id n:Nat} (hst:st id=some (.arr 28 (l.map r2C))) (hn:l.length=n) (h62:n<4611686018427387904):
    PC Tryz.prog 36 [.vec id 2 0 n, .fn 37 []] st fun _ S=>∃r:List R2,S=upd st id (some (.arr 28 (r.map r2C)))∧r.Perm l∧r.Pairwise fun x y=>¬hJ y x:=by
  have:=aaN (P:=Tryz.prog) avH (by kernel_rfl) (k:=2) Tryz.isAgg28 Tryz.sizeOf28 (enc:=fun x:R2=>[.int .i64 x.1, .int .i64 x.2]) (fun _=>rfl) (fun x v hv=>by simp only [List.mem_cons,List.not_mem_nil,or_false] at hv;rcases hv with rfl|rfl<;>rfl) (cmp:=afO)
    ⟨fun x=>by simp only [ltOf,decide_eq_false_iff_not,mN];unfold hJ;omega,fun x y z h1 h2=>by simp only [ltOf,decide_eq_true_eq,mN] at*;unfold hJ at*;omega,fun x y z h1 h2=>by simp only [ltOf,decide_eq_false_iff_not,mN] at*;unfold hJ at*;omega⟩ (gf:=37) (by kernel_rfl) (fun x y=>acO x y) (st:=st) (id:=id) (n:=n) (d:=l) (e:=28) (by kernel_rfl) hst hn h62
  refine ⟨this.1,fun w g vs h1 h2=>(this.2 w g vs h1 h2).mono ?_⟩
  rintro e w' ⟨v,q,S,g',h3,⟨r,hS,hp,hw⟩,h4⟩
  exact ⟨v,q,S,g',h3,⟨r,hS,hp,hw.imp fun {a b} h=>by rwa [mN] at h⟩,h4⟩
def jN (s:Sc) (b:Bs) (z:R2):List R2:=if eQ b z=true then adC s b z else []
theorem agM {l:List R2} (hn:l.Nodup):∀{r:List R2},r.Perm l→(r.Pairwise fun x y=>¬hJ y x)→r.Pairwise hJ:=fun {r} hp hw=>by
  have hr:r.Nodup:=hp.nodup_iff.2 hn
  unfold List.Nodup at hr
  refine (hw.and hr).imp fun {a b} h=> ?_
  obtain ⟨h1,h2⟩:=h
  unfold hJ at h1⊢
  have:¬(a.1=b.1∧a.2=b.2):=fun e=>h2 (Prod.ext e.1 e.2)
  omega
theorem apW {s:Sc} {b:Bs} (hb:b.length=s.length) (hs:∀k<b.length,KSort b[k]!.lines) {z:R2} {r:List R2} (hp:r.Perm (bS s b z)) (hw:r.Pairwise fun x y=>¬hJ y x):r=jN s b z:=by
  unfold bS at hp
  unfold jN
  by_cases hz:eQ b z=true
  · rw [if_pos hz] at hp⊢
    have hrow:=gC.1 hz
    exact aeC hb hs hrow (agM (oW hb hrow).nd hp hw) fun y=>hp.mem_iff
  · rw [if_neg hz] at hp⊢
    exact List.Perm.eq_nil hp
theorem vR {α β:Type} (f:α→β):∀(l:List α) (i:Nat),(l.map f).eraseIdx i=(l.eraseIdx i).map f
  |[],_=>rfl
  |_::_,0=>rfl
  |a::l,i+1=>by simp only [List.map_cons,List.eraseIdx_cons_succ,vR f l i]
theorem tL {α:Type}:∀{l:List α} {i:Nat} {x:α},l[i]?=some x→(x::l.eraseIdx i).Perm l
  |[],_,_,h=>by simp at h
  |a::l,0,x,h=>by simp at h;subst h;exact .refl _
  |a::l,i+1,x,h=>by
    simp only [List.getElem?_cons_succ] at h
    rw [List.eraseIdx_cons_succ]
    exact (List.Perm.swap a x _).trans ((tL h).cons a)
theorem qM (es:List (R2×Bool)) (i:Nat):(aV eD bF es).eraseIdx i=aV eD bF (es.eraseIdx i):=by unfold aV;rw [vR]
theorem ahD {es:List (R2×Bool)} {i:Nat} {e:Value×PV} (h:(aV eD bF es)[i]?=some e):∃x,es[i]?=some x∧e=(eD x.1,bF x.2):=by
  unfold aV at h
  rw [List.getElem?_map] at h
  cases hx:es[i]? with
  |none=>rw [hx] at h;cases h
  |some x=>rw [hx] at h;exact ⟨x,rfl,(Option.some.inj h).symm⟩
theorem agK {es:List (R2×Bool)} {out:List R2} {M:List R2} {i:Nat} {x:R2×Bool} (hx:es[i]?=some x) (h:(out++es.map (·.1)).Perm M):((out++[x.1])++(es.eraseIdx i).map (·.1)).Perm M:=by
  refine List.Perm.trans ?_ h
  rw [List.append_assoc]
  refine List.Perm.append_left _ ?_
  have:=(tL hx).map (·.1)
  simpa using this
theorem amA {st:aI} {id id' it:Nat} {a b c o:Option AObj} (h1:st id=none) (h2:it≠id) (h3:it≠id'):StSub (upd (upd st id' a) it o) (upd (upd (upd (upd (upd st id b) it c) it o) id none) id' a):=fun j=>by
  by_cases e1:j=it
  · subst e1;right;rw [aA,aB h3,aB h2,aA]
  · rw [aB e1]
    by_cases e2:j=id'
    · subst e2;right;rw [aA,aA]
    · rw [aB e2,aB e2]
      by_cases e3:j=id
      · subst e3;left;exact h1
      · right;rw [aB e3,aB e1,aB e1,aB e3]
theorem asN (M:List R2):(mE M).map (·.1)=M:=by unfold mE;rw [List.map_map];exact List.map_id M
theorem rQ {st:aI} {id it:Nat} {a o c:Option AObj} (h1:st id=none) (h2:st it=none):StSub st (upd (upd (upd (upd st id a) it o) id c) id none):=fun j=>by
  cases hj:st j with
  |none=>exact .inl rfl
  |some x=>
    right
    have q:∀{i:Nat},st i=none→j≠i:=fun {i} hi e=>by subst e;rw [hi] at hj;cases hj
    rw [aB (q h1),aB (q h1),aB (q h2),aB (q h1),hj]
theorem rO {st:aI} {id it id':Nat} {a b c:AObj} (h:upd (upd (upd st id (some a)) it (some b)) it (some c) id'=none):st id'=none∧id'≠it:=by
  have q1:∀{f:aI} {x y:Nat} {o:AObj},upd f x (some o) y=none→y≠x∧f y=none:=fun {f x y o} h=>by
    by_cases e:y=x
    · rw [e,aA] at h;cases h
    · exact ⟨e,by rwa [aB e] at h⟩
  obtain ⟨a1,a2⟩:=q1 h
  obtain ⟨b1,b2⟩:=q1 a2
  exact ⟨(q1 b2).2,a1⟩
theorem arR (x:R2) (g:G):Rep g (.agg (r2C x)) (eD x):=by
  unfold Rep
  exact ⟨qV x,rfl,vJ g (qV x)⟩
theorem ahQ {es:List (R2×Bool)} (h:aV eD bF es=[]):es=[]:=by cases es with
  |nil=>rfl
  |cons x l=>cases h
theorem aoW {s:Sc} {b:Bs} {z:R2} (hr:PF Tryz.prog 14 [.agg (scC s), .agg (bsC b)] (PV.val (Value.bool (true)))) (hFo:Fol s b) (hSo:∀k<b.length,KSort b[k]!.lines) (hl:∀d∈b,d.lines.length<100000000000) (h62:(bR b).length<1000000000) (st:aI):PC Tryz.prog 15 [.agg (scC s), .agg (bsC b),(PV.val (Value.int .i64 (z.1))),(PV.val (Value.int .i64 (z.2)))] st fun r S=>∃id,r= .vec id 2 0 (jN s b z).length∧S id=some (.arr 28 ((jN s b z).map r2C))∧StSub st (upd S id none):=by
  have hk:=rU hFo hl z
  unfold amW at hk
  have hlen:(bS s b z).length≤1000000000:=by
    unfold bS
    split
    · rename_i hz
      have htk:=oW hFo.len (gC.1 hz)
      have:=gP htk.nd htk.all
      omega
    · simp
  have hkK:=fun r hp hw=>apW hFo.len hSo (z:=z) (r:=r) hp hw
  generalize bS s b z=M at*
  generalize jN s b z=K at*
  refine dU aH Tryz.func15 (by kernel_rfl) rfl rfl rfl rfl ?_
  focus ((try (apply wO pk;exact rfl));(repeat' (first|((apply asZ pk;(iterate 5 exact rfl);intro it hit))|(show All _;constructor)|(show Imp _ _;constructor)|(show ImpX _ _ _ _;constructor)|(apply wC pk;(iterate 2 exact rfl))|(apply wE pk;(iterate 2 exact rfl))|(apply wX pk;exact rfl)|(apply wN pk;exact rfl)|(apply wDx pk;exact rfl;kernel_rfl;exact rfl;exact rfl)|(apply aC;simp only [zqt,zqf])|(refine aD rfl (fun h=> ?_) (fun h=> ?_)<;>(try simp at h)<;>try (exfalso;omega))|((try refine aF ?_);refine ⟨_,_,_,rfl,Wk.refl _,StSub.refl _, ?_⟩)|(apply aK;(iterate 3 exact rfl);(intro _;(first|apply hr|apply hk)<;>first|assumption|omega);rotate_left;(iterate 2 exact rfl))|(apply dG;(iterate 3 exact rfl);(intro _;(first|apply hr|apply hk)<;>first|assumption|omega);rotate_left;(iterate 2 exact rfl))|(apply ncA;(iterate 3 exact rfl);rotate_left;exact rfl;exact rfl)|(apply ldR pk;exact rfl;exact rfl;rotate_left;exact rfl;(focus ((repeat (first|exact aA _ _ _|assumption|refine (aB (by assumption)).trans ?_));done));exact rfl;exact rfl)|(apply stR pk;exact rfl;exact rfl;(focus ((repeat (first|exact aA _ _ _|assumption|refine (aB (by assumption)).trans ?_));done));exact rfl;exact rfl)|(intros;(try simp only [zql]);omega))))
  have hit0:st it=none:=hit
  refine oO 9 28 2 rfl rfl rfl (fun id hid=> ?_)
  have hid1:upd st it (some (.iter none (aV eD bF (mE M)))) id=none:=hid
  have hne:id≠it:=fun e=>by rw [e,aA] at hid1;cases hid1
  have hid0:st id=none:=by rwa [aB hne] at hid1
  clear hit hid hid1
  have hsub:StSub (upd (upd st id (some (.arr 28 (([]:List R2).map r2C)))) it (some (.iter none (aV eD bF (mE M))))) (upd (upd st it (some (.iter none (aV eD bF (mE M))))) id (some (.arr 28 []))):=aM (dO hne)
  have hp0:(([]:List R2)++(mE M).map (·.1)).Perm M:=by rw [List.nil_append,asN]
  refine aP (X:={x:List (R2×Bool)×List R2×Nat×Option (Value×PV)//st x.2.2.1=none∧x.2.2.1≠it∧(x.2.1++x.1.map (·.1)).Perm M}) (fun i=>(((St.nil 32 (upd (upd st i.1.2.2.1 (some (.arr 28 (i.1.2.1.map r2C)))) it (some (.iter i.1.2.2.2 (aV eD bF i.1.1))))).pv 9 (.vec i.1.2.2.1 2 0 i.1.2.1.length)).pv 20 (.ref it 0))) (fun i=>i.1.1.length) ⟨(mE M,[],id,none),hid0,hne,hp0⟩ ?_ (fun i=> ?_)
  · dsimp only
    (repeat (first|refine Sub.pv ?_ rfl|refine Sub.var ?_ rfl rfl));exact Sub.nil _ _ _ hsub rfl
  clear hid0 hne hsub hp0
  obtain ⟨⟨rest,out,id,cur⟩,hid0,hne,hp⟩:=i
  dsimp only at hid0 hne hp
  dsimp only
  have hlo:out.length≤1000000000:=by have:=hp.length_eq;rw [List.length_append] at this;omega
  (try (apply wO pk;exact rfl));(repeat' (first|(show All _;constructor)|(show Imp _ _;constructor)|(show ImpX _ _ _ _;constructor)|(apply wC pk;(iterate 2 exact rfl))|(apply wE pk;(iterate 2 exact rfl))|(apply wX pk;exact rfl)|(apply wN pk;exact rfl)|(apply wD pk [] [];kernel_rfl;exact rfl;exact rfl)|(apply aC;simp only [zqt,zqf])|(refine aD rfl (fun h=> ?_) (fun h=> ?_)<;>(try simp at h)<;>try (exfalso;omega))|(refine aF ?_;refine ⟨_,_,_,rfl,Wk.refl _,StSub.refl _, ?_,rfl⟩;try rfl)|(apply auL;exact rfl;exact aA _ _ _;(iterate 3 exact rfl);intro hleft;rotate_left;intro j e he;rotate_left)|(intros;(try simp only [zql]);omega)))
  · obtain rfl:=ahQ hleft
    rw [List.map_nil,List.append_nil] at hp
    have hlr:∀R:List R2,R.Perm out→(R.Pairwise fun x y=>¬hJ y x)→R=K:=fun R h1 h2=>hkK R (h1.trans hp) h2
    (try (apply wO pk;exact rfl));(repeat' (first|(show All _;constructor)|(show Imp _ _;constructor)|(show ImpX _ _ _ _;constructor)|(apply wC pk;(iterate 2 exact rfl))|(apply wE pk;(iterate 2 exact rfl))|(apply wX pk;exact rfl)|(apply wN pk;exact rfl)|(apply wDx pk;exact rfl;kernel_rfl;exact rfl;exact rfl)|(apply aC;simp only [zqt,zqf])|(refine aD rfl (fun h=> ?_) (fun h=> ?_)<;>(try simp at h)<;>try (exfalso;omega))|((try refine aF ?_);(first|(refine ⟨_,_,_,rfl,Wk.refl _,StSub.refl _, ?_⟩;((obtain rfl:=hlr R hR1 hR2;exact ⟨id,by rw [hR1.length_eq],aA _ _ _,rQ hid0 hit0⟩));done)|(refine ⟨_,_, ?zs,rfl,Wk.refl _, ?zh, ?zr⟩;(case zh=>(refine aG ?_ (by assumption);(repeat refine aG ?_ (by assumption));exact StSub.refl _));(case zr=>((obtain rfl:=hlr R hR1 hR2;exact ⟨id,by rw [hR1.length_eq],aA _ _ _,rQ hid0 hit0⟩))))|refine ⟨_,_,_,rfl,Wk.refl _,StSub.refl _, ?_⟩))|(apply ncA;(iterate 3 exact rfl);rotate_left;exact rfl;exact rfl)|(apply ldR pk;exact rfl;exact rfl;rotate_left;exact rfl;(focus ((repeat (first|exact aA _ _ _|assumption|refine (aB (by assumption)).trans ?_));done));exact rfl;exact rfl)|(apply stR pk;exact rfl;exact rfl;(focus ((repeat (first|exact aA _ _ _|assumption|refine (aB (by assumption)).trans ?_));done));exact rfl;exact rfl)|(apply bZ;exact rfl;exact rfl;(apply (amU out ((aB hne).trans (aA _ _ _)) rfl (by omega))<;>first|exact aA _ _ _|assumption|omega|(focus ((repeat (first|exact aA _ _ _|assumption|refine (aB (by assumption)).trans ?_));done)));(iterate 3 exact rfl);intro _ st' hR;obtain ⟨R,rfl,hR1,hR2⟩:=hR)|(apply bZ;exact rfl;exact rfl;(first|(apply fail_no_spec<;>first|exact aA _ _ _|assumption|omega|(simp only [zqs];omega)|(focus ((repeat (first|exact aA _ _ _|assumption|refine (aB (by assumption)).trans ?_));done))));(iterate 3 exact rfl);intro _ st' hR;(first|subst hR|obtain ⟨rfl,rfl⟩:=hR))|(intros;(try simp only [zql]);omega)))
  · obtain ⟨x,hx,rfl⟩:=ahD he
    have hp2:=agK hx hp
    have hlt:(rest.eraseIdx j).length<rest.length:=by
      have:=(List.getElem?_eq_some_iff.1 hx).1
      rw [List.length_eraseIdx_of_lt this];omega
    have atE:=Ne.symm hne
    rw [qM]
    have hkey:=arR x.1
    (try (apply wO pk;exact rfl));(repeat' (first|(show All _;constructor)|(show Imp _ _;constructor)|(show ImpX _ _ _ _;constructor)|(apply wC pk;(iterate 2 exact rfl))|(apply wE pk;(iterate 2 exact rfl))|(apply wX pk;exact rfl)|(apply wN pk;exact rfl)|(apply wDx pk;exact rfl;kernel_rfl;exact rfl;exact rfl)|(apply aC;simp only [zqt,zqf])|(refine aD rfl (fun h=> ?_) (fun h=> ?_)<;>(try simp at h)<;>try (exfalso;omega))|((try refine aF ?_);refine ⟨_,_,_,rfl,Wk.refl _,StSub.refl _, ?_⟩)|(apply ncA;(iterate 3 exact rfl);rotate_left;exact rfl;exact rfl)|(apply ldR pk;exact rfl;exact rfl;rotate_left;exact rfl;(focus ((repeat (first|exact aA _ _ _|assumption|refine (aB (by assumption)).trans ?_));done));exact rfl;exact rfl)|(apply stR pk;exact rfl;exact rfl;(focus ((repeat (first|exact aA _ _ _|assumption|refine (aB (by assumption)).trans ?_));done));exact rfl;exact rfl)|(apply apV pk (f:=r2C) [x.1] 16;(iterate 9 exact rfl);(focus ((repeat (first|exact aA _ _ _|assumption|refine (aB (by assumption)).trans ?_));done));(first|omega|assumption|(focus (simp;done))|(focus (simp;omega))|(focus (simp at*;omega)));exact fun _=>rfl;exact fun _=>rfl;exact rK;(first|omega|assumption|(focus (simp;done))|(focus (simp;omega))|(focus (simp at*;omega)));(first|omega|assumption|(focus (simp;done))|(focus (simp;omega))|(focus (simp at*;omega)));exact rfl;intro id' hid')|(apply ap0 pk (f:=r2C) [x.1] 16;(iterate 10 exact rfl);exact fun _=>rfl;exact fun _=>rfl;exact rK;(first|omega|assumption|(focus (simp;done))|(focus (simp;omega))|(focus (simp at*;omega)));(first|omega|assumption|(focus (simp;done))|(focus (simp;omega))|(focus (simp at*;omega)));exact rfl;intro id' hid')|(apply asP;exact rfl;exact rfl;exact aA _ _ _;exact hkey;rotate_left;exact rfl;exact rfl)|(refine ⟨⟨(rest.eraseIdx j,out++[x.1],id',some (eD x.1,bF x.2)),(rO hid').1,(rO hid').2,hp2⟩, ?_,by simp only;omega⟩;((dsimp only));(first|exact Sub.nil _ _ _ (StSub.refl _) rfl|((repeat (first|refine Sub.pv ?_ rfl|refine Sub.var ?_ rfl rfl|refine Sub.pv' ?_ rfl (by (first|rfl|(simp;done)))|refine Sub.var' ?_ rfl rfl (by (first|rfl|(simp;done)))));(first|exact Sub.nil _ _ _ (amA hid0 atE (Ne.symm (rO hid').2)) rfl|exact Sub.nil _ _ _ (StSub.refl _) rfl|exact Sub.nil _ _ _ (aS (by assumption)) rfl|exact Sub.nil _ _ _ (aM (by first|rfl|exact bM (by assumption)|((simp only [St.pv,St.put,St.sst,St.setv,St.nil,St.var,aO]);first|done|rfl))) rfl|(refine Sub.nil _ _ _ (aM ?_) rfl;(simp only [St.pv,St.put,St.sst,St.setv,St.nil,St.var,aO]);(rw [eJ (by assumption)]);first|done|rfl)))))|(intros;(try simp only [zql]);omega)))
theorem vO {s:Sc} {b:Bs} {z:R2} {rb:Bool} (hr:PF Tryz.prog 14 [.agg (scC s), .agg (bsC b)] (PV.val (Value.bool (rb)))) (hF:rb=true→Fol s b) (hS:rb=true→∀k<b.length,KSort b[k]!.lines) (hl:∀d∈b,d.lines.length<100000000000) (h62:(bR b).length<1000000000):PF Tryz.prog 15 [.agg (scC s), .agg (bsC b),(PV.val (Value.int .i64 (z.1))),(PV.val (Value.int .i64 (z.2)))] (.seq ((if rb=true then jN s b z else []).map r2C)):=by
  cases rb with
  |false=>
    refine aL aH Tryz.func15 (by kernel_rfl) rfl rfl rfl rfl (fun st=> ?_)
    (try (apply wO pk;exact rfl));(repeat' (first|((refine aF ?_;exact ⟨_,_,_,rfl,Wk.nil,StSub.refl _,rfl,rfl⟩))|(show All _;constructor)|(show Imp _ _;constructor)|(show ImpX _ _ _ _;constructor)|(apply wC pk;(iterate 2 exact rfl))|(apply wE pk;(iterate 2 exact rfl))|(apply wX pk;exact rfl)|(apply wN pk;exact rfl)|(apply wD pk [] [];kernel_rfl;exact rfl;exact rfl)|(apply aC;simp only [zqt,zqf])|(refine aD rfl (fun h=> ?_) (fun h=> ?_)<;>(try simp at h)<;>try (exfalso;omega))|(refine aF ?_;refine ⟨_,_,_,rfl,Wk.refl _,StSub.refl _, ?_,rfl⟩;try rfl)|(apply aK;(iterate 3 exact rfl);(intro _;apply hr<;>first|assumption|omega);rotate_left;(iterate 2 exact rfl))|(intros;(try simp only [zql]);omega)))
  |true=>
    rw [if_pos rfl]
    exact fun st=>iP (sz:=2) (aoW hr (hF rfl) (hS rfl) hl h62 st) fun p st' h=>by
      obtain ⟨id,rfl,h3,h4⟩:=h
      exact .inl ⟨id,28,(jN s b z).map r2C,_,st,h3,adY,iI rfl,h4,rfl,rfl⟩
end Go.Proofs.YtddmbnddgiebgaaGreatDoor
