/-
  ABS, part 16: a runner, computed: it walks all operations that ask for nothing but flags and bounds, region by region, and tells what is left.
-/
import Derived.Test.YtghjdkbmjjalmaaAbsMapW
namespace Go.Abs
open Go

/-- A flag that follows from another. -/
inductive Imp : Bool → Bool → Prop
  | one {w : Bool} : Imp w true
  | same {w : Bool} : Imp w w
  | left {w x b f : Bool} (h : Imp w f) : Imp (gw w x b) f
theorem Imp.ok {w f : Bool} (h : Imp w f) : w = true → f = true := by
  induction h with
  | one => exact fun _ => rfl
  | same => exact fun h => h
  | left _ ih => exact fun h => ih (gw_left h)
/-- The same, where a choice has gone one way. -/
inductive ImpX : Bool → Bool → Bool → Bool → Prop
  | one {w x b : Bool} : ImpX w x b true
  | same {w x : Bool} : ImpX w x true x
  | mk {w x b : Bool} : ImpX w x b (gw w x b)
  | up {w x y c b f : Bool} (h : ImpX w x b f) : ImpX (gw w y c) x b f
  | old {w x b f : Bool} (h : Imp w f) : ImpX w x b f
theorem ImpX.ok {w x b f : Bool} (h : ImpX w x b f) : w = true → x = b → f = true := by
  induction h with
  | one => exact fun _ _ => rfl
  | same => exact fun _ h => h
  | mk =>
    rename_i w x b
    intro hw hx
    subst hw; subst hx
    cases x <;> rfl
  | up _ ih => exact fun h => ih (gw_left h)
  | old h => exact fun hw _ => h.ok hw

def flagsI (s : St) (w : Bool) : List Operand → List Prop → List Prop
  | [], A => A
  | x :: xs, A => Imp w (flagB s x) :: flagsI s w xs A
inductive All : List Prop → Prop
  | nil : All []
  | cons {p : Prop} {ps : List Prop} (h : p) (t : All ps) : All (p :: ps)
theorem All.hd {p : Prop} {ps : List Prop} (h : All (p :: ps)) : p := by cases h; assumption
theorem All.tl {p : Prop} {ps : List Prop} (h : All (p :: ps)) : All ps := by cases h; assumption
theorem flagsI.g {s : St} {w : Bool} : ∀ {xs : List Operand} {A : List Prop}, All (flagsI s w xs A) → flagsG s w xs ∧ All A
  | [], _, h => ⟨trivial, h⟩
  | _ :: _, _, h => ⟨⟨h.hd.ok, (flagsI.g h.tl).1⟩, (flagsI.g h.tl).2⟩

/-- What an operation makes: the state, what must hold of flags, what must hold of numbers. -/
structure Out where
  s : St
  a : List Prop
  b : List Prop

def okD (s : St) (t : Nat) (o : Out) : Option Out := bif Nat.blt t s.n then some o else none

def arithA (op : BinOp) (s : St) (x y : Operand) : Option (Int × Prop) :=
  match opd s x, opd s y with
  | some (.val (.int .i64 a)), some (.val (.int .i64 b)) => match op with
    | .add => some (a + b, -9223372036854775808 ≤ a + b ∧ a + b ≤ 9223372036854775807)
    | .sub => some (a - b, -9223372036854775808 ≤ a - b ∧ a - b ≤ 9223372036854775807)
    | _ => none
  | _, _ => none

def isArith : BinOp → Bool
  | .add | .sub => true
  | _ => false

/-- The same, with what flags ask: without a guard they are looked at, else handed on. -/
def okF (s : St) (w un : Bool) (xs : List Operand) (t : Nat) (e : E) (A B : List Prop) : Option Out :=
  match un with
  | true => match flagsB s xs with
    | true => okD s t ⟨s.put (some t) true e, A, B⟩
    | false => none
  | false => okD s t ⟨s.put (some t) w e, flagsI s w xs A, B⟩

def valO (tt : TT) (w un : Bool) (op : Op) (t : Nat) (s : St) (A B : List Prop) : Option Out :=
  match pval tt s op with
  | some p => okF s w un (opl op) t (.pv p) A B
  | none => none

def stepD (tt : TT) (w un : Bool) (op : Op) (t : Nat) (s : St) (A B : List Prop) : Option Out :=
  match op with
  | .fieldAddr T (.tmp x) f => match s.env x with
    | (_, .adr _ _) => match padr tt s (.fieldAddr T (.tmp x) f) with
      | some (_, u, off) => okF s w un [.tmp x] t (.adr u off) A B
      | none => none
    | _ => valO tt w un (.fieldAddr T (.tmp x) f) t s A B
  | .load T (.tmp x) => match s.env x with
    | (_, .adr u off) => match s.L u with
      | some (_, cs) => match pload tt T cs off with
        | some p => okF s w un [.tmp x] t (.pv p) A B
        | none => none
      | none => none
    | _ => valO tt w un (.load T (.tmp x)) t s A B
  | .alloc T => match un, s.ad t, pzero tt T with
    | true, false, some cs => okD s t ⟨s.var t T cs, A, B⟩
    | _, _, _ => none
  | .box T x => match un, s.ad t, flagB s x, pbox s x with
    | true, false, true, some cs => okD s t ⟨s.var t T cs, A, B⟩
    | _, _, _, _ => none
  | .pick (.tmp u) a b => match s.env u with
    | (wt, .pv (.val (.bool x))) => match b with
      | .const (.bool false) => match opd s a with
        | some (.val (.bool y)) => okD s t ⟨s.put (some t) w (.pv (.val (.bool (x && y)))), Imp w wt :: ImpX w x true (flagB s a) :: A, B⟩
        | _ => none
      | b => match a with
        | .const (.bool true) => match opd s b with
          | some (.val (.bool y)) => okD s t ⟨s.put (some t) w (.pv (.val (.bool (x || y)))), Imp w wt :: ImpX w x false (flagB s b) :: A, B⟩
          | _ => none
        | _ => none
    | _ => none
  | .buildSlice T len ps => match pslice tt s T len ps.toList with
    | some p => okF s w un (opl (.buildSlice T len ps)) t (.pv p) A B
    | none => none
  | .binOp op T x y T2 => match isArith op with
    | true => match arithA op s x y with
      | some (c, b) => match un with
        | true => okF s w true [x, y] t (.pv (.val (.int .i64 c))) A (b :: B)
        | false => okF s w false [x, y] t (.pv (.val (.int .i64 c))) A ((w = true → b) :: B)
      | none => none
    | false => valO tt w un (.binOp op T x y T2) t s A B
  | .unOp .neg _ x => match opd s x with
    | some (.val (.int .i64 a)) => match un with
      | true => okF s w true [x] t (.pv (.val (.int .i64 (0 - a)))) A ((-9223372036854775808 ≤ 0 - a ∧ 0 - a ≤ 9223372036854775807) :: B)
      | false => okF s w false [x] t (.pv (.val (.int .i64 (0 - a)))) A ((w = true → -9223372036854775808 ≤ 0 - a ∧ 0 - a ≤ 9223372036854775807) :: B)
    | _ => none
  | op => valO tt w un op t s A B

def stepO (tt : TT) (l : List Oper) (o : Oper) (s : St) (A B : List Prop) : Option Out :=
  match o with
  | ⟨some t, op, _, _, _, none⟩ => stepD tt true true op t s A B
  | ⟨some t, op, ty, pos, after, some g⟩ => match wantA l ⟨some t, op, ty, pos, after, some g⟩ s with
    | some w => stepD tt w false op t s A B
    | none => none
  | ⟨none, .store T (.tmp x) y, _, _, _, none⟩ => match s.env x with
    | (true, .adr u off) => match s.L u with
      | some (T', cs) => match pstore tt s T y cs off with
        | some cs' => match flagB s y with
          | true => some ⟨s.setv u T' cs', A, B⟩
          | false => none
        | none => none
      | none => none
    | _ => none
  | _ => none

section
variable {P : Program} {tt : TT} {l : List Oper} {d : Bool} {r : List Oper} {s : St} {K : St → Prop} {t : Nat} {op : Op} {ty : TypeId} {pos : String} {after : Array Edge} {gd : Option (Nat × Bool)}

theorem okD_eq {o o' : Out} (h : okD s t o = some o') : Nat.blt t s.n = true ∧ o' = o := by
  unfold okD at h
  cases hb : Nat.blt t s.n with
  | false => rw [hb] at h; simp at h
  | true => rw [hb] at h; simp at h; exact ⟨rfl, h.symm⟩

theorem okF_sound {w un : Bool} {e : E} {A B : List Prop} {o : Out} {xs : List Operand} (hun : un = true → w = true) (h : okF s w un xs t e A B = some o) (ha : All o.a) (hb : All o.b) : Nat.blt t s.n = true ∧ flagsG s w xs ∧ o.s = s.put (some t) w e ∧ All A ∧ All B := by
  unfold okF at h
  split at h
  · split at h
    · rename_i hf
      obtain ⟨hd, rfl⟩ := okD_eq h
      have := hun rfl
      subst this
      refine ⟨hd, ?_, rfl, ha, hb⟩
      clear h ha hb hd
      induction xs with
      | nil => trivial
      | cons x xs ih =>
        simp only [flagsB, Bool.and_eq_true] at hf
        exact ⟨fun _ => hf.1, ih hf.2⟩
    · cases h
  · obtain ⟨hd, rfl⟩ := okD_eq h
    have := flagsI.g ha
    exact ⟨hd, this.1, rfl, this.2, hb⟩

theorem valO_sound (htt : TTOK P tt) {w un : Bool} {A B : List Prop} {o : Out} (hun : un = true → w = true) (hw : wantA l ⟨some t, op, ty, pos, after, gd⟩ s = some w) (h : valO tt w un op t s A B = some o) (ha : All o.a) (hb : All o.b) (k : Ev P l d r o.s K) : Ev P l d (⟨some t, op, ty, pos, after, gd⟩ :: r) s K ∧ All A ∧ All B := by
  unfold valO at h
  split at h
  · rename_i p hp
    obtain ⟨hd, hf, e, h1, h2⟩ := okF_sound hun h ha hb
    rw [e] at k
    exact ⟨ev_valg htt hw hp hf hd k, h1, h2⟩
  · cases h

theorem stepD_sound (htt : TTOK P tt) {w un : Bool} {A B : List Prop} {o : Out} (hun : un = true → gd = none ∧ w = true) (hw : wantA l ⟨some t, op, ty, pos, after, gd⟩ s = some w) (h : stepD tt w un op t s A B = some o) (ha : All o.a) (hb : All o.b) (k : Ev P l d r o.s K) : Ev P l d (⟨some t, op, ty, pos, after, gd⟩ :: r) s K ∧ All A ∧ All B := by
  have hun2 : un = true → w = true := fun e => (hun e).2
  unfold stepD at h
  split at h
  · rename_i T x f
    split at h
    · rename_i wx _ _ hx
      split at h
      · rename_i wx' u off hp
        obtain ⟨hd, hf, e, h1, h2⟩ := okF_sound hun2 h ha hb
        rw [e] at k
        refine ⟨ev_adr htt hw hp (fun hw' => ?_) hd k, h1, h2⟩
        have h3 := hf.1 hw'
        simp only [padr, hx] at hp
        simp only [flagB, hx] at h3
        split at hp
        · split at hp
          · split at hp
            · injection hp with hp; injection hp with hp _; rw [← hp]; exact h3
            · cases hp
          · cases hp
        · cases hp
      · cases h
    · exact valO_sound htt hun2 hw h ha hb k
  · rename_i T x
    split at h
    · rename_i wx u off hx
      split at h
      · rename_i T' cs hL
        split at h
        · rename_i p hp
          obtain ⟨hd, hf, e, h1, h2⟩ := okF_sound hun2 h ha hb
          rw [e] at k
          exact ⟨ev_load htt hw hx hL hp (fun hw' => by have := hf.1 hw'; simpa [flagB, hx] using this) hd k, h1, h2⟩
        · cases h
      · cases h
    · exact valO_sound htt hun2 hw h ha hb k
  · rename_i T
    split at h
    · rename_i cs had hz
      obtain ⟨hd, rfl⟩ := okD_eq h
      have := (hun rfl).1
      subst this
      exact ⟨ev_alloc htt hz hd had k, ha, hb⟩
    · cases h
  · rename_i T x
    split at h
    · rename_i cs had hf hz
      obtain ⟨hd, rfl⟩ := okD_eq h
      have := (hun rfl).1
      subst this
      exact ⟨ev_box hz hf hd had k, ha, hb⟩
    · cases h
  · rename_i u a b
    split at h
    · rename_i wt x hu
      split at h
      · split at h
        · rename_i y hy
          obtain ⟨hd, rfl⟩ := okD_eq h
          exact ⟨ev_and hw hu hy ha.hd.ok (fun h1 h2 => ha.tl.hd.ok h1 h2) hd k, ha.tl.tl, hb⟩
        · cases h
      · split at h
        · split at h
          · rename_i y hy
            obtain ⟨hd, rfl⟩ := okD_eq h
            exact ⟨ev_or hw hu hy ha.hd.ok (fun h1 h2 => ha.tl.hd.ok h1 h2) hd k, ha.tl.tl, hb⟩
          · cases h
        · cases h
    · cases h
  · rename_i T len ps
    split at h
    · rename_i p hp
      obtain ⟨hd, hf, e, h1, h2⟩ := okF_sound hun2 h ha hb
      rw [e] at k
      exact ⟨ev_slice htt hw hp hf hd k, h1, h2⟩
    · cases h
  · rename_i op T x y T2
    split at h
    · rename_i hia
      split at h
      · rename_i c b hab
        have key : ∀ {bb : Prop}, (bb → w = true → b) → okF s w un [x, y] t (.pv (.val (.int .i64 c))) A (bb :: B) = some o → Ev P l d (⟨some t, .binOp op T x y T2, ty, pos, after, gd⟩ :: r) s K ∧ All A ∧ All B := by
          intro bb hbb h
          obtain ⟨hd, hf, e, h1, h2⟩ := okF_sound hun2 h ha hb
          rw [e] at k
          refine ⟨?_, h1, h2.tl⟩
          have hb' := hbb h2.hd
          unfold arithA at hab
          split at hab
          · rename_i a1 b1 hx hy
            cases op <;> simp only at hab <;> first | (cases hab; done) | skip
            all_goals injection hab with hab
            all_goals injection hab with h1 h2
            all_goals subst h1
            all_goals subst h2
            · exact ev_addg _ hw hx hy hf hd (fun _ => rfl) (fun h => (hb' h).1) (fun h => (hb' h).2) k
            · exact ev_subg _ hw hx hy hf hd (fun _ => rfl) (fun h => (hb' h).1) (fun h => (hb' h).2) k
          · cases hab
        split at h
        · exact key (fun h _ => h) h
        · exact key (fun h => h) h
      · cases h
    · exact valO_sound htt hun2 hw h ha hb k
  · rename_i T x
    split at h
    · rename_i a hx
      have key : ∀ {bb : Prop}, (bb → w = true → -9223372036854775808 ≤ 0 - a ∧ 0 - a ≤ 9223372036854775807) → okF s w un [x] t (.pv (.val (.int .i64 (0 - a)))) A (bb :: B) = some o → Ev P l d (⟨some t, .unOp .neg T x, ty, pos, after, gd⟩ :: r) s K ∧ All A ∧ All B := by
        intro bb hbb h
        obtain ⟨hd, hf, e, h1, h2⟩ := okF_sound hun2 h ha hb
        rw [e] at k
        exact ⟨ev_opvg hw (fun hw' => opv_neg rfl hx (wrap64 (hbb h2.hd hw').1 (hbb h2.hd hw').2)) (fun z hz => opl_mem (fun _ _ _ e => by cases e) hz) hf hd k, h1, h2.tl⟩
      split at h
      · exact key (fun h _ => h) h
      · exact key (fun h => h) h
    · cases h
  · exact valO_sound htt hun2 hw h ha hb k

theorem stepO_sound (htt : TTOK P tt) {o : Oper} {A B : List Prop} {x : Out} (h : stepO tt l o s A B = some x) (ha : All x.a) (hb : All x.b) (k : Ev P l d r x.s K) : Ev P l d (o :: r) s K ∧ All A ∧ All B := by
  unfold stepO at h
  split at h
  · exact stepD_sound htt (fun _ => ⟨rfl, rfl⟩) rfl h ha hb k
  · split at h
    · rename_i w hw
      exact stepD_sound htt (fun e => by cases e) hw h ha hb k
    · cases h
  · split at h
    · rename_i u off hx
      split at h
      · rename_i T' cs hL
        split at h
        · rename_i cs' hp
          split at h
          · rename_i hf
            injection h with h; subst h
            exact ⟨ev_store htt hx hL hp hf k, ha, hb⟩
          · cases h
        · cases h
      · cases h
    · cases h
  · cases h

/-! ### Regions, and code -/
inductive Fr where
  | seq (c : Code)
  | blk (id : Nat)

def plug (P : Program) : List Fr → (Exit → St → Prop) → Exit → St → Prop
  | [], Q => Q
  | .seq c :: k, Q => thenQ (PWp P c (plug P k Q)) (plug P k Q)
  | .blk id :: k, Q => blockQ id (plug P k Q)
def contK (P : Program) (k : List Fr) (Q : Exit → St → Prop) (s : St) : Prop := plug P k Q .normal s

/-- What is left to be shown. -/
inductive Bx where
  | mk (a b g : Prop)

/-- Where a region's walk has come to. -/
inductive Rn where
  | mk (s : St) (r : List Oper) (A B : List Prop)

def runA (tt : TT) (l : List Oper) : List Oper → St → List Prop → List Prop → Rn
  | [], s, A, B => .mk s [] A B
  | o :: r, s, A, B => match stepO tt l o s A B with
    | some ⟨s', A', B'⟩ => runA tt l r s' A' B'
    | none => .mk s (o :: r) A B

theorem runA_sound (htt : TTOK P tt) : ∀ {r : List Oper} {s : St} {A B : List Prop} {s' : St} {r' : List Oper} {A' B' : List Prop}, runA tt l r s A B = .mk s' r' A' B' → All A' → All B' → Ev P l d r' s' K → Ev P l d r s K ∧ All A ∧ All B
  | [], _, _, _, _, _, _, _, e, ha, hb, h => by
    simp only [runA] at e
    injection e with e1 e2 e3 e4
    subst e1; subst e2; subst e3; subst e4
    exact ⟨h, ha, hb⟩
  | o :: r, s, A, B, s', r', A', B', e, ha, hb, h => by
    simp only [runA] at e
    split at e
    · rename_i s1 A1 B1 hs
      obtain ⟨h1, h2, h3⟩ := runA_sound htt e ha hb h
      exact stepO_sound htt hs h2 h3 h1
    · injection e with e1 e2 e3 e4
      subst e1; subst e2; subst e3; subst e4
      exact ⟨h, ha, hb⟩

/-- A place in code: at a piece's head, behind one, on the way out to a block's end. -/
inductive Pt where
  | code (c : Code)
  | norm
  | out (id : Nat)

def holds (P : Program) (k : List Fr) (Q : Exit → St → Prop) (s : St) : Pt → Prop
  | .code c => PWp P c (plug P k Q) s
  | .norm => plug P k Q .normal s
  | .out id => plug P k Q (.exit id) s

def stopAt (P : Program) (pt : Pt) (k : List Fr) (Q : Exit → St → Prop) (s : St) (A B : List Prop) : Bx :=
  match pt with
  | .code c => .mk (All A) (All B) (PWp P c (plug P k Q) s)
  | .norm => .mk (All A) (All B) (plug P k Q .normal s)
  | .out id => .mk (All A) (All B) (plug P k Q (.exit id) s)

/-- Code, walked on as far as it goes. -/
def adv (P : Program) (tt : TT) : Nat → Pt → List Fr → (Exit → St → Prop) → St → List Prop → List Prop → Bx
  | 0, pt, k, Q, s, A, B => stopAt P pt k Q s A B
  | n + 1, .norm, k, Q, s, A, B => match k with
    | [] => .mk (All A) (All B) (Q .normal s)
    | .seq c' :: k' => adv P tt n (.code c') k' Q s A B
    | .blk _ :: k' => adv P tt n .norm k' Q s A B
  | n + 1, .out id, k, Q, s, A, B => match k with
    | [] => .mk (All A) (All B) (Q (.exit id) s)
    | .seq _ :: k' => adv P tt n (.out id) k' Q s A B
    | .blk id' :: k' => match Nat.beq id id' with
      | true => adv P tt n .norm k' Q s A B
      | false => adv P tt n (.out id) k' Q s A B
  | n + 1, .code c, k, Q, s, A, B => match c with
    | .skip => adv P tt n .norm k Q s A B
    | .exit id => adv P tt n (.out id) k Q s A B
    | .seq x y => adv P tt n (.code x) (.seq y :: k) Q s A B
    | .block id x => adv P tt n (.code x) (.blk id :: k) Q s A B
    | .region _ ops false => match runA tt ops.toList ops.toList s A B with
      | .mk s' [] A' B' => adv P tt n .norm k Q s' A' B'
      | .mk s' (o :: r) A' B' => .mk (All A') (All B') (Ev P ops.toList false (o :: r) s' (contK P k Q))
    | c => .mk (All A) (All B) (PWp P c (plug P k Q) s)

theorem adv_sound (htt : TTOK P tt) : ∀ (n : Nat) (pt : Pt) (k : List Fr) (Q : Exit → St → Prop) (s : St) (A B : List Prop) {a b g : Prop}, adv P tt n pt k Q s A B = .mk a b g → a → b → g → holds P k Q s pt ∧ All A ∧ All B := by
  intro n
  induction n with
  | zero =>
    intro pt k Q s A B a b g h ha hb hg
    cases pt <;> simp only [adv, stopAt] at h <;> injection h with h1 h2 h3 <;> subst h1 <;> subst h2 <;> subst h3 <;> exact ⟨hg, ha, hb⟩
  | succ n ih =>
    intro pt k Q s A B a b g h ha hb hg
    have fin' : ∀ {H : Prop}, Bx.mk (All A) (All B) H = .mk a b g → H ∧ All A ∧ All B := fun {H} e => by
      injection e with h1 h2 h3
      subst h1; subst h2; subst h3
      exact ⟨hg, ha, hb⟩
    cases pt with
    | norm =>
      simp only [adv] at h
      split at h
      · exact fin' h
      · have := ih _ _ _ _ _ _ h ha hb hg; exact this
      · have := ih _ _ _ _ _ _ h ha hb hg; exact this
    | out id =>
      simp only [adv] at h
      split at h
      · exact fin' h
      · have := ih _ _ _ _ _ _ h ha hb hg; exact this
      · rename_i id' k'
        split at h
        · rename_i hid
          have := Nat.eq_of_beq_eq_true hid
          obtain ⟨h1, h2⟩ := ih _ _ _ _ _ _ h ha hb hg
          refine ⟨?_, h2⟩
          show blockQ id' (plug P k' Q) (.exit id) s
          simp only [blockQ, if_pos this]
          exact h1
        · rename_i hid
          have : id ≠ id' := fun e => by subst e; rw [Nat.beq_refl] at hid; cases hid
          obtain ⟨h1, h2⟩ := ih _ _ _ _ _ _ h ha hb hg
          refine ⟨?_, h2⟩
          show blockQ id' (plug P k' Q) (.exit id) s
          simp only [blockQ, if_neg this]
          exact h1
    | code c =>
      have reg : ∀ {ops : Array Oper} {d : Bool}, (match runA tt ops.toList ops.toList s A B with
            | .mk s' [] A' B' => adv P tt n .norm k Q s' A' B'
            | .mk s' (o :: r) A' B' => .mk (All A') (All B') (Ev P ops.toList d (o :: r) s' (contK P k Q))) = Bx.mk a b g → Ev P ops.toList d ops.toList s (contK P k Q) ∧ All A ∧ All B := by
        intro ops d e
        split at e
        · rename_i s' A' B' hr
          obtain ⟨h1, h2, h3⟩ := ih _ _ _ _ _ _ e ha hb hg
          exact runA_sound htt hr h2 h3 (ev_nil h1)
        · rename_i s' o r A' B' hr
          injection e with h1 h2 h3
          subst h1; subst h2; subst h3
          exact runA_sound htt hr ha hb hg
      simp only [adv] at h
      split at h
      · obtain ⟨h1, h2⟩ := ih _ _ _ _ _ _ h ha hb hg
        exact ⟨pwp_skip h1, h2⟩
      · obtain ⟨h1, h2⟩ := ih _ _ _ _ _ _ h ha hb hg
        exact ⟨pwp_exit h1, h2⟩
      · obtain ⟨h1, h2⟩ := ih _ _ _ _ _ _ h ha hb hg
        exact ⟨pwp_seq h1, h2⟩
      · obtain ⟨h1, h2⟩ := ih _ _ _ _ _ _ h ha hb hg
        exact ⟨pwp_block h1, h2⟩
      · obtain ⟨h1, h2⟩ := reg h
        exact ⟨pwp_region (Q := plug P k Q) (l := Array.toList _) h1, h2⟩
      · exact fin' h

structure Pk (P : Program) (tt : TT) : Prop where
  hm : P.follows .mixedOrders = true
  htt : TTOK P tt
/-! The words of a walk. -/
theorem go0 (pk : Pk P tt) {c : Code} {Q : Exit → St → Prop} {a b g : Prop} (h : adv P tt 1000 (.code c) [] Q s [] [] = .mk a b g) (ha : a) (hb : b) (hg : g) : PWp P c Q s :=
  (adv_sound pk.htt _ _ _ _ _ _ _ h ha hb hg).1
theorem go (pk : Pk P tt) {c : Code} {k : List Fr} {Q : Exit → St → Prop} {a b g : Prop} (h : adv P tt 1000 (.code c) k Q s [] [] = .mk a b g) (ha : a) (hb : b) (hg : g) : PWp P c (plug P k Q) s :=
  (adv_sound pk.htt _ _ _ _ _ _ _ h ha hb hg).1
theorem goN (pk : Pk P tt) {k : List Fr} {Q : Exit → St → Prop} {a b g : Prop} (h : adv P tt 1000 .norm k Q s [] [] = .mk a b g) (ha : a) (hb : b) (hg : g) : plug P k Q .normal s :=
  (adv_sound pk.htt _ _ _ _ _ _ _ h ha hb hg).1
theorem goX (pk : Pk P tt) {id : Nat} {k : List Fr} {Q : Exit → St → Prop} {a b g : Prop} (h : adv P tt 1000 (.out id) k Q s [] [] = .mk a b g) (ha : a) (hb : b) (hg : g) : plug P k Q (.exit id) s :=
  (adv_sound pk.htt _ _ _ _ _ _ _ h ha hb hg).1
def advE (P : Program) (tt : TT) (l : List Oper) (d : Bool) (r : List Oper) (s : St) (k : List Fr) (Q : Exit → St → Prop) : Bx :=
  match runA tt l r s [] [] with
  | .mk s' [] A' B' => adv P tt 1000 .norm k Q s' A' B'
  | .mk s' (o :: r) A' B' => .mk (All A') (All B') (Ev P l d (o :: r) s' (contK P k Q))
theorem goE (pk : Pk P tt) {k : List Fr} {Q : Exit → St → Prop} {a b g : Prop} (h : advE P tt l d r s k Q = .mk a b g) (ha : a) (hb : b) (hg : g) : Ev P l d r s (contK P k Q) := by
  unfold advE at h
  split at h
  · rename_i s' A' B' hr
    obtain ⟨h1, h2, h3⟩ := adv_sound pk.htt _ _ _ _ _ _ _ h ha hb hg
    exact (runA_sound pk.htt hr h2 h3 (ev_nil h1)).1
  · rename_i s' o r A' B' hr
    injection h with h1 h2 h3
    subst h1; subst h2; subst h3
    exact (runA_sound pk.htt hr ha hb hg).1
theorem goD (pk : Pk P tt) {id : Nat} {ops : Array Oper} {k : List Fr} {Q : Exit → St → Prop} {a b g : Prop} (hl : lexA ops.toList = true) (h : advE P tt ops.toList true ops.toList s k Q = .mk a b g) (ha : a) (hb : b) (hg : g) : PWp P (.region id ops true) (plug P k Q) s :=
  pwp_region_draw (l := ops.toList) pk.hm hl (goE pk h ha hb hg)
/-! Calls and places, with or without a guard. -/
theorem callS {f : Operand} {args : Array Operand} {ts : Array TypeId} {fid : FuncId} {caps ps : List PV} {w : Bool} {p : PV} (hw : wantA l ⟨some t, .call ⟨.value f, args, ts⟩, ty, pos, after, gd⟩ s = some w) (hf : opd s f = some (.fn fid caps)) (hps : opdL s args.toList = some ps) (h : w = true → PF P fid (ps ++ caps) p) (hfl : All (flagsI s w (f :: args.toList) [])) (hd : Nat.blt t s.n = true)
    (k : Ev P l d r (s.put (some t) w (.pv p)) K) : Ev P l d (⟨some t, .call ⟨.value f, args, ts⟩, ty, pos, after, gd⟩ :: r) s K :=
  ev_callg hw hf hps h (flagsI.g hfl).1 hd k
theorem callW {f : Operand} {args : Array Operand} {ts : Array TypeId} {fid : FuncId} {caps ps : List PV} {w : Bool} (qs : List PV) {p : PV} (hw : wantA l ⟨some t, .call ⟨.value f, args, ts⟩, ty, pos, after, gd⟩ s = some w) (hf : opd s f = some (.fn fid caps)) (hps : opdL s args.toList = some ps) (hq : WkL ps qs) (h : w = true → PF P fid (qs ++ caps) p) (hfl : All (flagsI s w (f :: args.toList) [])) (hd : Nat.blt t s.n = true)
    (k : Ev P l d r (s.put (some t) w (.pv p)) K) : Ev P l d (⟨some t, .call ⟨.value f, args, ts⟩, ty, pos, after, gd⟩ :: r) s K :=
  ev_opvg hw (fun hw' => opv_call rfl hf hps hq (h hw')) (fun _ hx => opl_mem (fun _ _ _ e => by cases e) hx) (flagsI.g hfl).1 hd k
theorem idxS (pk : Pk P tt) {T e : TypeId} {x y : Operand} {w : Bool} {p : PV} {rows : List (List PV)} {kk : IntKind} {n : Int} {j sz : Nat} {row : List PV} (hw : wantA l ⟨some t, .indexAddr T x y, ty, pos, after, gd⟩ s = some w) (hx : opd s x = some p) (hp : prows p = some rows) (hy : opd s y = some (.val (.int kk n))) (hk : tiK tt T = some (.slice e)) (hs : tiSize tt e = some sz) (hf : All (flagsI s w [x, y] [])) (hd : Nat.blt t s.n = true)
    (hj : w = true → n = (j : Int)) (hr : w = true → rows[j]? = some row) (hl : w = true → row.length = sz) (k : Ev P l d r (s.put (some t) w (.pv (.rp row))) K) : Ev P l d (⟨some t, .indexAddr T x y, ty, pos, after, gd⟩ :: r) s K :=
  ev_indexg pk.htt hw hx hp hy hk hs (flagsI.g hf).1 hd hj hr hl k
theorem idxL (pk : Pk P tt) {T : TypeId} {x : Nat} {y : Operand} {w wx : Bool} {u off n e sz : Nat} {kk : IntKind} {i : Int} (j : Nat) (hw : wantA l ⟨some t, .indexAddr T (.tmp x) y, ty, pos, after, gd⟩ s = some w) (hx : s.env x = (wx, .adr u off)) (hy : opd s y = some (.val (.int kk i))) (hk : tiK tt T = some (.arr n e)) (hs : tiSize tt e = some sz)
    (hf : All (flagsI s w [.tmp x, y] [])) (hd : Nat.blt t s.n = true) (hj : w = true → i = (j : Int)) (hlt : w = true → j < n) (k : Ev P l d r (s.put (some t) w (.adr u (off + j * sz))) K) : Ev P l d (⟨some t, .indexAddr T (.tmp x) y, ty, pos, after, gd⟩ :: r) s K := by
  have h := (flagsI.g hf).1
  exact ev_idx pk.htt j hw hx hy hk hs (fun hw' => by have := h.1 hw'; simpa [flagB, hx] using this) (fun hw' => h.2.1 hw') hd hj hlt k
theorem lookS (pk : Pk P tt) {T : TypeId} {x y : Operand} {ok w : Bool} {q p : PV} {es : List (Value × PV)} {key : Value} (hw : wantA l ⟨some t, .lookup T x y ok, ty, pos, after, gd⟩ s = some w) (hx : opd s x = some q) (hq : pents q = some es) (hy : opd s y = some (.val key)) (hf : All (flagsI s w (opl (.lookup T x y ok)) [])) (hd : Nat.blt t s.n = true)
    (h : plookup tt T es key ok = some p) (k : Ev P l d r (s.put (some t) w (.pv p)) K) : Ev P l d (⟨some t, .lookup T x y ok, ty, pos, after, gd⟩ :: r) s K :=
  ev_lookup pk.htt hw hx hq hy (flagsI.g hf).1 hd h k
theorem go0n (pk : Pk P tt) (n : Nat) {c : Code} {Q : Exit → St → Prop} {a b g : Prop} (h : adv P tt n (.code c) [] Q s [] [] = .mk a b g) (ha : a) (hb : b) (hg : g) : PWp P c Q s :=
  (adv_sound pk.htt _ _ _ _ _ _ _ h ha hb hg).1
theorem gon (pk : Pk P tt) (n : Nat) {c : Code} {k : List Fr} {Q : Exit → St → Prop} {a b g : Prop} (h : adv P tt n (.code c) k Q s [] [] = .mk a b g) (ha : a) (hb : b) (hg : g) : PWp P c (plug P k Q) s :=
  (adv_sound pk.htt _ _ _ _ _ _ _ h ha hb hg).1
/-- Where ways meet: behind a piece of code the state is told anew. -/
theorem pwp_join {c y : Code} {k : List Fr} {Q : Exit → St → Prop} (S0 : St) (h : PWp P c (loopQ (fun s' => Sub s' S0) (plug P (.seq y :: k) Q)) s) (hk : PWp P y (plug P k Q) S0) : PWp P c (plug P (.seq y :: k) Q) s :=
  h.mono fun e s' q => by cases e <;> first | exact pwp_sub _ q hk | exact q
theorem plug_app : ∀ (k1 k2 : List Fr) (Q : Exit → St → Prop), plug P (k1 ++ k2) Q = plug P k1 (plug P k2 Q)
  | [], _, _ => rfl
  | .seq c :: k1, k2, Q => by simp only [List.cons_append, plug, plug_app k1 k2 Q]
  | .blk id :: k1, k2, Q => by simp only [List.cons_append, plug, plug_app k1 k2 Q]
theorem plug_mono {Q Q' : Exit → St → Prop} (hq : ∀ e s, Q e s → Q' e s) : ∀ (k : List Fr) (e : Exit) (s : St), plug P k Q e s → plug P k Q' e s
  | [], e, s, h => hq e s h
  | .seq c :: k, e, s, h => by
    have ih := plug_mono hq k
    cases e with
    | normal => exact PWp.mono (h : PWp P c (plug P k Q) s) ih
    | _ => exact ih _ _ h
  | .blk id :: k, e, s, h => by
    have ih := plug_mono hq k
    cases e with
    | exit id' =>
      have h : (if id' = id then plug P k Q .normal s else plug P k Q (.exit id') s) := h
      show (if id' = id then plug P k Q' .normal s else plug P k Q' (.exit id') s)
      split
      · rename_i e; rw [if_pos e] at h; exact ih _ _ h
      · rename_i e; rw [if_neg e] at h; exact ih _ _ h
    | _ => exact ih _ _ h
/-- Where ways meet, further out. -/
theorem pwp_joinK (k1 : List Fr) {c y : Code} {k : List Fr} {Q : Exit → St → Prop} (S0 : St) (h : PWp P c (plug P k1 (loopQ (fun s' => Sub s' S0) (plug P (.seq y :: k) Q))) s) (hk : PWp P y (plug P k Q) S0) : PWp P c (plug P (k1 ++ .seq y :: k) Q) s := by
  rw [plug_app]
  refine h.mono fun e s' q => plug_mono (fun e s' q => ?_) k1 e s' q
  cases e <;> first | exact pwp_sub _ q hk | exact q
end
end Go.Abs
