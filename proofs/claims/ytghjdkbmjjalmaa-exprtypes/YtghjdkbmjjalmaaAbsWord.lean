/-
  ABS, part 17: the words of a walk.
-/
import Derived.Test.YtghjdkbmjjalmaaAbsRun
import Derived.KernelRfl
namespace Go.Abs
open Go
section
variable {P : Program} {tt : TT} {l : List Oper} {d : Bool} {r : List Oper} {s : St} {K : St → Prop} {t : Nat} {op : Op} {ty : TypeId} {pos : String} {after : Array Edge} {gd : Option (Nat × Bool)}
def isW : Code → Bool
  | .seq _ _ | .block _ _ | .skip | .exit _ | .region _ _ false => true
  | _ => false
theorem wC (pk : Pk P tt) {c : Code} {k : List Fr} {Q : Exit → St → Prop} {a b g : Prop} (_hp : isW c = true) (h : adv P tt 1000 (.code c) k Q s [] [] = .mk a b g) (ha : a) (hb : b) (hg : g) : PWp P c (plug P k Q) s := go pk h ha hb hg
theorem wO (pk : Pk P tt) {c : Code} {Q : Exit → St → Prop} {a b g : Prop} (h : adv P tt 1000 (.code c) [] Q s [] [] = .mk a b g) (ha : a) (hb : b) (hg : g) : PWp P c Q s := go0 pk h ha hb hg
theorem wX (pk : Pk P tt) {id : Nat} {k : List Fr} {Q : Exit → St → Prop} {a b g : Prop} (h : adv P tt 1000 (.out id) k Q s [] [] = .mk a b g) (ha : a) (hb : b) (hg : g) : plug P k Q (.exit id) s := goX pk h ha hb hg
theorem wN (pk : Pk P tt) {k : List Fr} {Q : Exit → St → Prop} {a b g : Prop} (h : adv P tt 1000 .norm k Q s [] [] = .mk a b g) (ha : a) (hb : b) (hg : g) : plug P k Q .normal s := goN pk h ha hb hg
def stepped (tt : TT) (l : List Oper) (r : List Oper) (s : St) : Bool :=
  match r with
  | [] => true
  | o :: _ => match stepO tt l o s [] [] with
    | some _ => true
    | none => false
theorem wE (pk : Pk P tt) {k : List Fr} {Q : Exit → St → Prop} {a b g : Prop} (_hp : stepped tt l r s = true) (h : advE P tt l d r s k Q = .mk a b g) (ha : a) (hb : b) (hg : g) : Ev P l d r s (contK P k Q) := goE pk h ha hb hg
theorem wD (pk : Pk P tt) {id : Nat} {ops : Array Oper} {k : List Fr} {Q : Exit → St → Prop} {a b g : Prop} (hl : lexA ops.toList = true) (h : advE P tt ops.toList true ops.toList s k Q = .mk a b g) (ha : a) (hb : b) (hg : g) : PWp P (.region id ops true) (plug P k Q) s := goD pk hl h ha hb hg
/-- Where ways meet: at the end of a block. -/
def idxB (id : Nat) : List Fr → Nat
  | [] => 0
  | .blk j :: k => match Nat.beq id j with
    | true => 1
    | false => idxB id k + 1
  | .seq _ :: k => idxB id k + 1
def hasSeq : List Fr → Bool
  | [] => false
  | .seq _ :: _ => true
  | .blk _ :: k => hasSeq k
theorem plug_sub {Q : Exit → St → Prop} {s s2 : St} (h : Sub s s2) : ∀ {k : List Fr}, hasSeq k = true → plug P k Q .normal s2 → plug P k Q .normal s
  | .seq _ :: _, _, hk => pwp_sub s2 h hk
  | .blk _ :: k, hq, hk => plug_sub (k := k) h hq hk
theorem joinB (id : Nat) {c : Code} {k : List Fr} {Q : Exit → St → Prop} (S0 : St) (hq : hasSeq (k.drop (idxB id k)) = true) (h : PWp P c (plug P (k.take (idxB id k)) (loopQ (fun s' => Sub s' S0) (plug P (k.drop (idxB id k)) Q))) s) (hk : plug P (k.drop (idxB id k)) Q .normal S0) : PWp P c (plug P k Q) s := by
  have e : plug P k Q = plug P (k.take (idxB id k)) (plug P (k.drop (idxB id k)) Q) := by rw [← plug_app, List.take_append_drop]
  rw [e]
  refine h.mono fun e s' q => plug_mono (fun e s' q => ?_) (k.take (idxB id k)) e s' q
  cases e <;> first | exact plug_sub q hq hk | exact q
/-- One more behind a list of things that have cells. -/
theorem apS (pk : Pk P tt) {α : Type} {f : α → List PV} {xs : List α} (a : α) {T T2 e : TypeId} {x y : Operand} {id sz : Nat} (B : Nat) (hx : opd s x = some (.own id (xs.map f))) (hy : opd s y = some (.seq [f a])) (hk : tiK tt T = some (.slice e)) (hk2 : isSliceT tt T2 = true) (hs : tiSize tt e = some sz) (hz : (tiZ tt e).map List.length = some sz) (hf : flagsB s [x, y] = true) (hd : Nat.blt t s.n = true)
    (htok : s.st id = some (.tok e)) (hl : ∀ a, (f a).length = sz) (h1 : ∀ a, (f a).all PV.one = true) (hB : P.bytesOf e = B) (hb : (xs.length + 1) * B ≤ 140737488355328) (h62 : xs.length + 1 < 4611686018427387904)
    (k : ∀ id', s.st id' = none → Ev P l false r ((s.sst (upd (upd s.st id none) id' (some (.tok e)))).pv t (.own id' ((xs ++ [a]).map f))) K) : Ev P l false (⟨some t, .call ⟨.builtin .append, #[x, y], #[T, T2]⟩, ty, pos, after, none⟩ :: r) s K :=
  ev_append pk.htt B hx hy rfl hk hk2 hs hz hf hd htok (fun r hr => by obtain ⟨a, _, rfl⟩ := List.mem_map.1 hr; exact hl a) (fun r hr => by rw [List.mem_singleton.1 hr]; exact hl a) (fun r hr => by rw [List.mem_singleton.1 hr]; exact h1 a) hB (by simpa using hb) (by simpa using h62)
    (fun id' h => by have := k id' h; rw [List.map_append] at this; exact this)
/-- What reads as a slice that one may append to, or as none at all, reads as a slice. -/
def softF : Nat → PV → PV
  | 0, p => match p with
    | .own _ rows => .seq rows
    | .val (.slice none 0 0) => .seq []
    | p => p
  | n + 1, p => match p with
    | .own _ rows => .seq rows
    | .val (.slice none 0 0) => .seq []
    | .agg cs => .agg (cs.map (softF n))
    | .tup cs => .tup (cs.map (softF n))
    | p => p
def soft (p : PV) : PV := softF 3 p
theorem soft_list : ∀ (cs : List PV) {g : PV → PV}, (∀ q ∈ cs, Wk q (g q)) → WkL cs (cs.map g)
  | [], _, _ => .nil
  | c :: cs, g, h => .cons (h c (by simp)) (soft_list cs fun q hq => h q (by simp [hq]))
theorem Wk.softF : ∀ (n : Nat) (p : PV), Wk p (softF n p)
  | 0, p => by
    unfold Go.Abs.softF
    split
    · exact Wk.own _ _
    · exact Wk.nil
    · exact Wk.refl _
  | n + 1, p => by
    unfold Go.Abs.softF
    split
    · exact Wk.own _ _
    · exact Wk.nil
    · exact Wk.agg (soft_list _ fun q _ => Wk.softF _ q)
    · exact Wk.tup (soft_list _ fun q _ => Wk.softF _ q)
    · exact Wk.refl _
theorem Wk.soft (p : PV) : Wk p (soft p) := Wk.softF 3 p
theorem WkL.soft : ∀ (ps : List PV), WkL ps (ps.map soft)
  | [] => .nil
  | p :: ps => .cons (Wk.soft p) (WkL.soft ps)
theorem callV {f : Operand} {args : Array Operand} {ts : Array TypeId} {fid : FuncId} {caps ps : List PV} {w : Bool} {p : PV} (hw : wantA l ⟨some t, .call ⟨.value f, args, ts⟩, ty, pos, after, gd⟩ s = some w) (hf : opd s f = some (.fn fid caps)) (hps : opdL s args.toList = some ps) (h : w = true → PF P fid (ps.map soft ++ caps) p) (hfl : All (flagsI s w (f :: args.toList) [])) (hd : Nat.blt t s.n = true)
    (k : Ev P l d r (s.put (some t) w (.pv p)) K) : Ev P l d (⟨some t, .call ⟨.value f, args, ts⟩, ty, pos, after, gd⟩ :: r) s K :=
  callW (ps.map soft) hw hf hps (WkL.soft ps) h hfl hd k
theorem take_snoc {α β : Type} (f : α → β) {l : List α} {i : Nat} (h : i < l.length) : (l.take i).map f ++ [f (l[i]'h)] = (l.take (i + 1)).map f := by
  rw [List.take_succ_eq_append_getElem h, List.map_append]; rfl
theorem take_snoc' {α : Type} {l : List α} {i : Nat} (h : i < l.length) : l.take i ++ [l[i]'h] = l.take (i + 1) := by
  rw [List.take_succ_eq_append_getElem h]
/-- A place in a list of things that have cells. -/
theorem get_map {α : Type} {f : α → List PV} {l : List α} {j : Nat} (h : j < l.length) : (l.map f)[j]? = some (f (l[j]'h)) := by simp [h]
end
end Go.Abs
