/-
  ABS, part 2: the abstract state of a frame; when a frame and a world are in it; code in abstract states.
-/
import Derived.Test.YtghjdkbmjjalmaaAbsCore
namespace Go.Abs
open Go

/-- What a slot holds: a value, or the address of a cell of one of the function's own variables (by the slot that its variable was laid in). -/
inductive E where
  | pv (p : PV)
  | adr (t off : Nat)

/-- 'env': of each slot whether its operation was wanted, and what it holds; 'L': the function's own variables; 'ad': the slots that have had one; 'st': the objects; 'n': how many slots there are. -/
structure St where
  env : Nat → Bool × E
  L : Nat → Option (TypeId × List PV)
  ad : Nat → Bool
  st : Store
  n : Nat

def St.sst (s : St) (st : Store) : St := { s with st := st }

def upd {α : Type} (f : Nat → α) (d : Nat) (v : α) : Nat → α := fun t => bif Nat.beq t d then v else f t

theorem upd_same {α : Type} (f : Nat → α) (d : Nat) (v : α) : upd f d v d = v := by simp [upd]
theorem upd_ne {α : Type} {f : Nat → α} {d t : Nat} {v : α} (h : t ≠ d) : upd f d v t = f t := by
  have : Nat.beq t d = false := by
    cases hb : Nat.beq t d
    · rfl
    · exact absurd (Nat.eq_of_beq_eq_true hb) h
  simp [upd, this]
theorem upd_comm {α : Type} {f : Nat → α} {d e : Nat} {v u : α} (h : d ≠ e) : upd (upd f d v) e u = upd (upd f e u) d v := by
  funext t
  by_cases h1 : t = d
  · subst h1; rw [upd_ne h, upd_same, upd_same]
  · by_cases h2 : t = e
    · subst h2; rw [upd_same, upd_ne h1, upd_same]
    · rw [upd_ne h2, upd_ne h1, upd_ne h1, upd_ne h2]

def St.put (s : St) (d : Option Nat) (w : Bool) (e : E) : St :=
  match d with
  | some d => { s with env := upd s.env d (w, e) }
  | none => s

def EntOK (g : G) (lam : Nat → Nat) : Bool × E → Value → Prop
  | (true, .pv p), x => Rep g p x
  | (true, .adr t off), x => x = .pointer (some ⟨lam t, off, none⟩)
  | (false, _), x => x = undef

/-- Where a function began: the world, the ghost, the blocks that it may write. -/
structure Ctx where
  w : World
  g : G
  B : Nat → Prop

structure SI (P : Program) (c : Ctx) (s : St) (a : Act) (w : World) (g : G) (lam : Nat → Nat) : Prop where
  mem : MemOK P s.st w g
  le : Le c.g g
  frame : Frame c.B c.w c.g w g
  blk : ∀ b, Blocks s.st g b → c.B b ∨ c.w.heap.size ≤ b
  env : ∀ t, EntOK g lam (s.env t) (a.tmps.getD t undef)
  box : ∀ t T cs, s.L t = some (T, cs) → ∃ vs, g.heap[lam t]? = some (.cells vs T (0, 0)) ∧ RepL g cs vs.toList ∧ g.fr (lam t) = 0 ∧ c.w.heap.size ≤ lam t ∧ ¬ Blocks s.st g (lam t)
  inj : ∀ t t', s.L t ≠ none → s.L t' ≠ none → lam t = lam t' → t = t'
  ad : ∀ t w u off, s.env t = (w, .adr u off) → s.ad u = true
  adL : ∀ t, s.L t ≠ none → s.ad t = true
  defers : a.defers = []
  n : a.tmps.size = s.n

/-- Code from an abstract state on: however the state reads, it comes to an exit in an abstract state that meets Q. -/
def PWp (P : Program) (cd : Code) (Q : Exit → St → Prop) (s : St) : Prop :=
  ∀ c a w g lam, SI P c s a w g lam → cd.wp P (fun e a' w' => ∃ s' g' lam', Q e s' ∧ SI P c s' a' w' g' lam') a w

theorem PWp.mono {P : Program} {cd : Code} {Q Q' : Exit → St → Prop} {s : St} (h : PWp P cd Q s) (hq : ∀ e s, Q e s → Q' e s) : PWp P cd Q' s :=
  fun c a w g lam hs => wp_mono (h c a w g lam hs) fun _ _ _ ⟨s', g', lam', q, si⟩ => ⟨s', g', lam', hq _ _ q, si⟩

section
variable {P : Program} {Q : Exit → St → Prop} {s : St}

theorem pwp_skip (h : Q .normal s) : PWp P .skip Q s := fun _ _ _ g lam hs => wp_skip ⟨s, g, lam, h, hs⟩
theorem pwp_exit {id : Nat} (h : Q (.exit id) s) : PWp P (.exit id) Q s := fun _ _ _ g lam hs => wp_exit ⟨s, g, lam, h, hs⟩
theorem pwp_ret (h : Q .ret s) : PWp P .ret Q s := fun _ _ _ g lam hs => wp_ret ⟨s, g, lam, h, hs⟩

def thenQ (K : St → Prop) (Q : Exit → St → Prop) : Exit → St → Prop
  | .normal, s => K s
  | e, s => Q e s

theorem pwp_seq {x y : Code} (h : PWp P x (thenQ (PWp P y Q) Q) s) : PWp P (.seq x y) Q s := fun c a w g lam hs =>
  wp_seq (wp_mono (h c a w g lam hs) fun e a' w' ⟨s', g', lam', q, si⟩ => by
    cases e <;> first
      | exact q c a' w' g' lam' si
      | exact ⟨s', g', lam', q, si⟩)

/-- A sequence whose first part comes to its end only through K. -/
theorem pwp_seq' {x y : Code} {K : St → Prop} (h : PWp P x (thenQ K Q) s) (hk : ∀ s', K s' → PWp P y Q s') : PWp P (.seq x y) Q s :=
  pwp_seq (h.mono fun e s' q => by cases e <;> first | exact hk s' q | exact q)

def blockQ (id : Nat) (Q : Exit → St → Prop) : Exit → St → Prop
  | .exit id', s => if id' = id then Q .normal s else Q (.exit id') s
  | e, s => Q e s

theorem pwp_block {id : Nat} {x : Code} (h : PWp P x (blockQ id Q) s) : PWp P (.block id x) Q s := fun c a w g lam hs =>
  wp_block (wp_mono (h c a w g lam hs) fun e a' w' ⟨s', g', lam', q, si⟩ => by
    cases e with
    | exit id' =>
      simp only [Exit.inBlock, blockQ] at q ⊢
      split
      · rename_i hh; rw [if_pos hh] at q; exact ⟨s', g', lam', q, si⟩
      · rename_i hh; rw [if_neg hh] at q; exact ⟨s', g', lam', q, si⟩
    | _ => exact ⟨s', g', lam', q, si⟩)

theorem SI.tmp_bool {c : Ctx} {a : Act} {w : World} {g : G} {lam : Nat → Nat} (hs : SI P c s a w g lam) {t : Nat} {b : Bool} (h : s.env t = (true, .pv (.val (.bool b)))) :
    a.eval (.tmp t) = .bool b := by
  have := hs.env t
  rw [h] at this
  simpa [EntOK, Rep, Act.eval] using this

theorem pwp_cond {t : Nat} {b : Bool} {x y : Code} (h : s.env t = (true, .pv (.val (.bool b)))) (ht : b = true → PWp P x Q s) (hf : b = false → PWp P y Q s) : PWp P (.cond (.tmp t) x y) Q s :=
  fun c a w g lam hs => wp_cond_split (hs.tmp_bool h) (fun e => ht e c a w g lam hs) (fun e => hf e c a w g lam hs)

theorem pwp_true {t : Nat} {x y : Code} (h : s.env t = (true, .pv (.val (.bool true)))) (ht : PWp P x Q s) : PWp P (.cond (.tmp t) x y) Q s :=
  pwp_cond h (fun _ => ht) (fun e => by cases e)
theorem pwp_false {t : Nat} {x y : Code} (h : s.env t = (true, .pv (.val (.bool false)))) (ht : PWp P y Q s) : PWp P (.cond (.tmp t) x y) Q s :=
  pwp_cond h (fun e => by cases e) (fun _ => ht)

end

/-- A store with fewer objects. -/
def StSub (st2 st : Store) : Prop := ∀ id, st2 id = none ∨ st2 id = st id
theorem StSub.refl (st : Store) : StSub st st := fun _ => .inr rfl
theorem StSub.via {st st' : Store} (id : Nat) (hid : st id = none) (h : ∀ j, j ≠ id → st' j = st j) : StSub st st' := fun j => by
  by_cases hj : j = id
  · left; rw [hj]; exact hid
  · right; exact (h j hj).symm
theorem MemOK.sub {P : Program} {st st2 : Store} {w : World} {g : G} (h : MemOK P st w g) (hs : StSub st2 st) : MemOK P st2 w g :=
  ⟨h.heap, fun id o e => h.obj id o (by rcases hs id with k | k <;> rw [k] at e <;> first | cases e | exact e),
   fun id id' b e e' => h.inj id id' b (by rcases hs id with k | k <;> rw [k] at e <;> first | exact absurd rfl e | exact e) (by rcases hs id' with k | k <;> rw [k] at e' <;> first | exact absurd rfl e' | exact e'), h.lt, h.fmm, h.fin⟩
theorem Blocks.sub {st st2 : Store} {g : G} (hs : StSub st2 st) {b : Nat} (h : Blocks st2 g b) : Blocks st g b := by
  obtain ⟨id, h1, h2⟩ := h
  refine ⟨id, ?_, h2⟩
  rcases hs id with k | k <;> rw [k] at h1 <;> first | exact absurd rfl h1 | exact h1

/-- A state that tells less: slots and variables forgotten. -/
structure Sub (s s2 : St) : Prop where
  env : ∀ t, s2.env t = (true, .pv .und) ∨ s2.env t = s.env t
  L : ∀ t x, s2.L t = some x → s.L t = some x
  st : StSub s2.st s.st
  n : s2.n = s.n
  ad : ∀ t w u off, s2.env t = (w, .adr u off) → s2.ad u = true
  adL : ∀ t, s2.L t ≠ none → s2.ad t = true

theorem SI.sub {P : Program} {c : Ctx} {s s2 : St} {a : Act} {w : World} {g : G} {lam : Nat → Nat} (hs : SI P c s a w g lam) (h : Sub s s2) : SI P c s2 a w g lam where
  mem := hs.mem.sub h.st
  le := hs.le
  frame := hs.frame
  blk b hb := hs.blk b (hb.sub h.st)
  env t := by
    rcases h.env t with e | e
    · rw [e]; simp [EntOK, Rep]
    · rw [e]; exact hs.env t
  box t T cs e := by
    obtain ⟨vs, h1, h2, h3, h4, h5⟩ := hs.box t T cs (h.L t _ e)
    exact ⟨vs, h1, h2, h3, h4, fun hb => h5 (hb.sub h.st)⟩
  inj t t' e e' hl := by
    cases h1 : s2.L t with
    | none => exact absurd h1 e
    | some x =>
      cases h2 : s2.L t' with
      | none => exact absurd h2 e'
      | some y => exact hs.inj t t' (by rw [h.L t x h1]; simp) (by rw [h.L t' y h2]; simp) hl
  ad := h.ad
  adL := h.adL
  defers := hs.defers
  n := h.n ▸ hs.n

theorem pwp_sub {P : Program} {cd : Code} {Q : Exit → St → Prop} {s : St} (s2 : St) (h : Sub s s2) (hk : PWp P cd Q s2) : PWp P cd Q s :=
  fun c a w g lam hs => hk c a w g lam (hs.sub h)

section
variable {P : Program} {Q : Exit → St → Prop} {s : St}
def loopQ (I : St → Prop) (Q : Exit → St → Prop) : Exit → St → Prop
  | .normal, s => I s
  | e, s => Q e s

/-- A loop, by states that are told by a parameter: 'sh x' is the state at a round's head, 'm x' what falls. -/
theorem pwp_loop {X : Type} {body : Code} (sh : X → St) (m : X → Nat) (x0 : X) (h0 : Sub s (sh x0))
    (round : ∀ x, PWp P body (loopQ (fun s' => ∃ x', Sub s' (sh x') ∧ m x' < m x) Q) (sh x)) : PWp P (.loop body) Q s := by
  intro c a w g lam hs b k cs
  have key : ∀ n x, m x = n → ∀ a w g lam, SI P c (sh x) a w g lam → ∃ e a' w', (∃ s' g' lam', Q e s' ∧ SI P c s' a' w' g' lam') ∧ Arrives P (lone (b.at a (.code body :: .inLoop body :: k)) cs w) b k cs e a' w' := by
    intro n
    induction n using Nat.strongRecOn with
    | _ n ih =>
      intro x hx a w g lam hs
      obtain ⟨e, a₁, w₁, ⟨s', g', lam', hq, hs'⟩, harr⟩ := round x c a w g lam hs b (.inLoop body :: k) cs
      cases e with
      | normal =>
        obtain ⟨x', hx', hlt⟩ := hq
        obtain ⟨e₂, a₂, w₂, hq₂, harr₂⟩ := ih (m x') (hx ▸ hlt) x' rfl a₁ w₁ g' lam' (hs'.sub hx')
        exact ⟨e₂, a₂, w₂, hq₂, .of_steps (Steps.trans harr (.one step_inLoop)) harr₂⟩
      | exit id => exact ⟨_, a₁, w₁, ⟨s', g', lam', hq, hs'⟩, .pass (x := .inLoop body) rfl (fun _ _ => .inl (by simp)) harr⟩
      | goto l => exact ⟨_, a₁, w₁, ⟨s', g', lam', hq, hs'⟩, .pass (x := .inLoop body) rfl (fun _ _ => .inl (by simp)) harr⟩
      | ret => exact ⟨_, a₁, w₁, ⟨s', g', lam', hq, hs'⟩, .pass (x := .inLoop body) rfl (fun _ _ => .inl (by simp)) harr⟩
      | panic ch => exact ⟨_, a₁, w₁, ⟨s', g', lam', hq, hs'⟩, .pass (x := .inLoop body) rfl (fun _ _ => .inl (by simp)) harr⟩
      | outgrown => exact ⟨_, a₁, w₁, ⟨s', g', lam', hq, hs'⟩, .pass (x := .inLoop body) rfl (fun _ _ => .inl (by simp)) harr⟩
  obtain ⟨e, a', w', hq, harr⟩ := key _ x0 rfl a w g lam (hs.sub h0)
  exact ⟨e, a', w', hq, .of_steps (.one step_loop) harr⟩

/-- A loop, at a round's head: for rounds that are told one by one. -/
def PL (P : Program) (body : Code) (Q : Exit → St → Prop) (s : St) : Prop :=
  ∀ c a w g lam, SI P c s a w g lam → ∀ b k cs, ∃ e a' w', (∃ s' g' lam', Q e s' ∧ SI P c s' a' w' g' lam') ∧ Arrives P (lone (b.at a (.code body :: .inLoop body :: k)) cs w) b k cs e a' w'
theorem pwp_rounds {body : Code} (h : PL P body Q s) : PWp P (.loop body) Q s := by
  intro c a w g lam hs b k cs
  obtain ⟨e, a', w', hq, harr⟩ := h c a w g lam hs b k cs
  exact ⟨e, a', w', hq, .of_steps (.one step_loop) harr⟩
theorem pl_round {body : Code} (h : PWp P body (loopQ (PL P body Q) Q) s) : PL P body Q s := by
  intro c a w g lam hs b k cs
  obtain ⟨e, a₁, w₁, ⟨s', g', lam', hq, hs'⟩, harr⟩ := h c a w g lam hs b (.inLoop body :: k) cs
  cases e with
  | normal =>
    obtain ⟨e₂, a₂, w₂, hq₂, harr₂⟩ := hq c a₁ w₁ g' lam' hs' b k cs
    exact ⟨e₂, a₂, w₂, hq₂, .of_steps (Steps.trans harr (.one step_inLoop)) harr₂⟩
  | exit id => exact ⟨_, a₁, w₁, ⟨s', g', lam', hq, hs'⟩, .pass (x := .inLoop body) rfl (fun _ _ => .inl (by simp)) harr⟩
  | goto l => exact ⟨_, a₁, w₁, ⟨s', g', lam', hq, hs'⟩, .pass (x := .inLoop body) rfl (fun _ _ => .inl (by simp)) harr⟩
  | ret => exact ⟨_, a₁, w₁, ⟨s', g', lam', hq, hs'⟩, .pass (x := .inLoop body) rfl (fun _ _ => .inl (by simp)) harr⟩
  | panic ch => exact ⟨_, a₁, w₁, ⟨s', g', lam', hq, hs'⟩, .pass (x := .inLoop body) rfl (fun _ _ => .inl (by simp)) harr⟩
  | outgrown => exact ⟨_, a₁, w₁, ⟨s', g', lam', hq, hs'⟩, .pass (x := .inLoop body) rfl (fun _ _ => .inl (by simp)) harr⟩
end

/-! ### States that are typed out -/
def St.nil (n : Nat) (st : Store) : St := ⟨fun _ => (true, .pv .und), fun _ => none, fun _ => false, st, n⟩
def St.pv (s : St) (t : Nat) (p : PV) : St := { s with env := upd s.env t (true, .pv p) }
def St.var (s : St) (t : Nat) (T : TypeId) (cs : List PV) : St := { s with env := upd s.env t (true, .adr t 0), L := upd s.L t (some (T, cs)), ad := upd s.ad t true }

theorem Sub.nil (s : St) (n : Nat) (st : Store) (h : StSub st s.st) (hn : n = s.n) : Sub s (St.nil n st) :=
  ⟨fun _ => .inl rfl, fun _ _ e => (by cases e), h, hn, fun _ _ _ _ e => (by cases e), fun _ e => absurd rfl e⟩
theorem Sub.pv {s s2 : St} (h : Sub s s2) {t : Nat} {p : PV} (e : s.env t = (true, .pv p)) : Sub s (s2.pv t p) :=
  ⟨fun u => by
      by_cases hu : u = t
      · subst hu; right; show upd _ _ _ _ = _; rw [upd_same, e]
      · show upd _ _ _ _ = _ ∨ upd _ _ _ _ = _; rw [upd_ne hu]; exact h.env u,
   h.L, h.st, h.n, fun u w v off e' => by
      by_cases hu : u = t
      · subst hu; have : upd s2.env u (true, .pv p) u = _ := e'; rw [upd_same] at this; cases this
      · have : upd s2.env t (true, .pv p) u = _ := e'; rw [upd_ne hu] at this; exact h.ad u w v off this, h.adL⟩
theorem Sub.var {s s2 : St} (h : Sub s s2) {t : Nat} {T : TypeId} {cs : List PV} (e : s.env t = (true, .adr t 0)) (eL : s.L t = some (T, cs)) : Sub s (s2.var t T cs) :=
  ⟨fun u => by
      by_cases hu : u = t
      · subst hu; right; show upd _ _ _ _ = _; rw [upd_same, e]
      · show upd _ _ _ _ = _ ∨ upd _ _ _ _ = _; rw [upd_ne hu]; exact h.env u,
   fun u x e' => by
      by_cases hu : u = t
      · subst hu; have : upd s2.L u (some (T, cs)) u = _ := e'; rw [upd_same] at this; rw [eL, ← this]
      · have : upd s2.L t (some (T, cs)) u = _ := e'; rw [upd_ne hu] at this; exact h.L u x this,
   h.st, h.n, fun u w v off e' => by
      show upd s2.ad t true v = true
      by_cases hv : v = t
      · subst hv; exact upd_same _ _ _
      · rw [upd_ne hv]
        by_cases hu : u = t
        · subst hu; have : upd s2.env u (true, .adr u 0) u = _ := e'; rw [upd_same] at this; injection this with h1 h2; injection h2 with h2 h3; exact absurd h2.symm hv
        · have : upd s2.env t (true, .adr t 0) u = _ := e'; rw [upd_ne hu] at this; exact h.ad u w v off this,
   fun u e' => by
      show upd s2.ad t true u = true
      by_cases hu : u = t
      · subst hu; exact upd_same _ _ _
      · have : upd s2.L t (some (T, cs)) u ≠ none := e'; rw [upd_ne hu] at this ⊢; exact h.adL u this⟩
theorem Sub.pv' {s s2 : St} (h : Sub s s2) {t : Nat} {p q : PV} (e : s.env t = (true, .pv q)) (hq : q = p) : Sub s (s2.pv t p) := h.pv (hq ▸ e)
theorem Sub.var' {s s2 : St} (h : Sub s s2) {t : Nat} {T : TypeId} {cs ds : List PV} (e : s.env t = (true, .adr t 0)) (eL : s.L t = some (T, ds)) (hq : ds = cs) : Sub s (s2.var t T cs) := h.var e (hq ▸ eL)
end Go.Abs
