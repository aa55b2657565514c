/-
  ABS, part 1: abstract values (data as trees, without a heap), when a value of the model reads as one, the abstract state of a function's frame, and when a frame and a world are in it.
-/
import Derived.Still
import Derived.Below
namespace Go.Abs
open Go

/-- Abstract values. 'seq': a slice whose cells nobody writes any more, by rows (the cells of each element); 'rp': a pointer to cells that nobody writes any more; 'fmap': a map that nobody writes any more; 'fn': a function with what it has caught; 'own': as 'seq', with the right to append behind it (the object of that number); 'ref', 'vec', 'mref': a pointer, a slice, a map, into an object of the state. -/
inductive PV where
  | und
  | val (v : Value)
  | agg (cs : List PV)
  | tup (cs : List PV)
  | seq (rows : List (List PV))
  | own (id : Nat) (rows : List (List PV))
  | rp (cs : List PV)
  | fn (f : FuncId) (caps : List PV)
  | fmap (es : List (Value × PV))
  | ref (id off : Nat)
  | vec (id off len : Nat)
  | mref (id : Nat)

instance : Inhabited PV := ⟨.und⟩

def PV.cells : PV → List PV
  | .agg cs => cs
  | v => [v]

/-- One cell, as it shows. -/
def PV.one : PV → Bool
  | .val (.agg _) | .val (.tuple _) | .und | .tup _ | .agg _ => false
  | _ => true

/-- Does a value's making show its cells (a struct or an array as 'agg' of single cells, all else as one cell)? -/
def PV.flat : PV → Bool
  | .agg cs => cs.all PV.one
  | p => p.one

/-- The ghost: the heap as it is, where each object of a number lies (its block, how many rows it has there, how many it may have), how many cells of each block nobody writes any more, and which maps nobody writes any more. -/
structure G where
  heap : Array Obj
  io : Nat → Option (Nat × Nat × Nat)
  fr : Nat → Nat
  fm : Nat → Prop

def cellAt (h : Array Obj) (b i : Nat) : Option Value :=
  match h[b]? with
  | some (.cells c _ _) => c[i]?
  | _ => none

mutual
def Rep (g : G) : PV → Value → Prop
  | .und, _ => True
  | .val v, x => x = v
  | .agg cs, x => ∃ vs : List Value, x = .agg vs.toArray ∧ RepL g cs vs
  | .tup cs, x => ∃ vs : List Value, x = .tuple vs.toArray ∧ RepL g cs vs
  | .seq rows, x => ∃ a cap, x = .slice a rows.length cap ∧ rows.length ≤ cap ∧ rows.length < 2 ^ 62 ∧ (rows = [] ∨ ∃ b off sz, a = some ⟨b, off, none⟩ ∧ RepR g b off sz rows)
  | .own id rows, x => ∃ b cap sz, g.io id = some (b, rows.length, cap) ∧ rows.length ≤ cap ∧ rows.length < 2 ^ 62 ∧ ((cap = 0 ∧ ∃ a, x = .slice a 0 0) ∨ (cap ≠ 0 ∧ x = .slice (some ⟨b, 0, none⟩) rows.length cap ∧ RepR g b 0 sz rows))
  | .rp cs, x => ∃ b off, x = .pointer (some ⟨b, off, none⟩) ∧ RepA g b off cs
  | .fn f caps, x => ∃ vs : List Value, x = .func (.func f) #[] vs.toArray ∧ RepL g caps vs
  | .fmap es, x => ∃ b ents clock, x = .map (some b) ∧ g.fm b ∧ g.heap[b]? = some (.map ents clock) ∧ RepE g es ents.toList
  | .ref id off, x => ∃ b n cap, g.io id = some (b, n, cap) ∧ x = .pointer (some ⟨b, off, none⟩)
  | .vec id off len, x => ∃ b n cap sz, g.io id = some (b, n, cap) ∧ len ≤ cap ∧ x = .slice (some ⟨b, off * sz, none⟩) len cap
  | .mref id, x => ∃ b n cap, g.io id = some (b, n, cap) ∧ x = .map (some b)
def RepL (g : G) : List PV → List Value → Prop
  | [], vs => vs = []
  | p :: ps, vs => ∃ v vs', vs = v :: vs' ∧ Rep g p v ∧ RepL g ps vs'
def RepA (g : G) (b off : Nat) : List PV → Prop
  | [] => True
  | p :: ps => (∃ v, cellAt g.heap b off = some v ∧ off < g.fr b ∧ Rep g p v) ∧ RepA g b (off + 1) ps
def RepR (g : G) (b off sz : Nat) : List (List PV) → Prop
  | [] => True
  | r :: rs => r.length = sz ∧ RepA g b off r ∧ RepR g b (off + sz) sz rs
def RepE (g : G) : List (Value × PV) → List MapEntry → Prop
  | [], vs => vs = []
  | e :: es, vs => ∃ m ms, vs = m :: ms ∧ m.key = e.1 ∧ Rep g e.2 m.val ∧ RepE g es ms
end

/-- The ghost goes on: what is known stays so. -/
structure Le (g g' : G) : Prop where
  io : ∀ id x, g.io id = some x → g'.io id = some x
  fr : ∀ b, g.fr b ≤ g'.fr b
  cell : ∀ b i, i < g.fr b → cellAt g'.heap b i = cellAt g.heap b i
  fm : ∀ b, g.fm b → g'.fm b ∧ g'.heap[b]? = g.heap[b]?

theorem Le.refl (g : G) : Le g g := ⟨fun _ _ h => h, fun _ => Nat.le_refl _, fun _ _ _ => rfl, fun _ h => ⟨h, rfl⟩⟩
theorem Le.trans {a b c : G} (h : Le a b) (k : Le b c) : Le a c :=
  ⟨fun id x e => k.io id x (h.io id x e), fun i => Nat.le_trans (h.fr i) (k.fr i),
   fun b i hi => (k.cell b i (Nat.lt_of_lt_of_le hi (h.fr b))).trans (h.cell b i hi),
   fun b hb => ⟨(k.fm b (h.fm b hb).1).1, (k.fm b (h.fm b hb).1).2.trans (h.fm b hb).2⟩⟩

mutual
theorem Rep.mono {g g' : G} (h : Le g g') : ∀ (p : PV) (v : Value), Rep g p v → Rep g' p v
  | .und, _, _ => trivial
  | .val _, _, e => by simpa [Rep] using e
  | .agg cs, x, e => by
    simp only [Rep] at e ⊢
    obtain ⟨vs, e1, e2⟩ := e
    exact ⟨vs, e1, RepL.mono h cs vs e2⟩
  | .tup cs, x, e => by
    simp only [Rep] at e ⊢
    obtain ⟨vs, e1, e2⟩ := e
    exact ⟨vs, e1, RepL.mono h cs vs e2⟩
  | .seq rows, x, e => by
    simp only [Rep] at e ⊢
    obtain ⟨a, cap, e1, e2, e3, e4⟩ := e
    refine ⟨a, cap, e1, e2, e3, ?_⟩
    rcases e4 with e4 | ⟨b, off, sz, e4, e5⟩
    · exact .inl e4
    · exact .inr ⟨b, off, sz, e4, RepR.mono h b off sz rows e5⟩
  | .own id rows, x, e => by
    simp only [Rep] at e ⊢
    obtain ⟨b, cap, sz, e1, e2, e3, e4⟩ := e
    refine ⟨b, cap, sz, h.io _ _ e1, e2, e3, ?_⟩
    rcases e4 with e4 | ⟨e4, e5, e6⟩
    · exact .inl e4
    · exact .inr ⟨e4, e5, RepR.mono h b 0 sz rows e6⟩
  | .rp cs, x, e => by
    simp only [Rep] at e ⊢
    obtain ⟨b, off, e1, e2⟩ := e
    exact ⟨b, off, e1, RepA.mono h b off cs e2⟩
  | .fn f caps, x, e => by
    simp only [Rep] at e ⊢
    obtain ⟨vs, e1, e2⟩ := e
    exact ⟨vs, e1, RepL.mono h caps vs e2⟩
  | .fmap es, x, e => by
    simp only [Rep] at e ⊢
    obtain ⟨b, ents, clock, e1, e2, e3, e4⟩ := e
    obtain ⟨h1, h2⟩ := h.fm b e2
    exact ⟨b, ents, clock, e1, h1, h2.trans e3, RepE.mono h es _ e4⟩
  | .ref id off, x, e => by
    simp only [Rep] at e ⊢
    obtain ⟨b, n, cap, e1, e2⟩ := e
    exact ⟨b, n, cap, h.io _ _ e1, e2⟩
  | .vec id off len, x, e => by
    simp only [Rep] at e ⊢
    obtain ⟨b, n, cap, sz, e1, e2⟩ := e
    exact ⟨b, n, cap, sz, h.io _ _ e1, e2⟩
  | .mref id, x, e => by
    simp only [Rep] at e ⊢
    obtain ⟨b, n, cap, e1, e2⟩ := e
    exact ⟨b, n, cap, h.io _ _ e1, e2⟩
theorem RepL.mono {g g' : G} (h : Le g g') : ∀ (ps : List PV) (vs : List Value), RepL g ps vs → RepL g' ps vs
  | [], _, e => by simpa [RepL] using e
  | p :: ps, vs, e => by
    simp only [RepL] at e ⊢
    obtain ⟨v, vs', e1, e2, e3⟩ := e
    exact ⟨v, vs', e1, Rep.mono h p v e2, RepL.mono h ps vs' e3⟩
theorem RepA.mono {g g' : G} (h : Le g g') (b off : Nat) : ∀ (ps : List PV), RepA g b off ps → RepA g' b off ps
  | [], _ => by simp [RepA]
  | p :: ps, e => by
    simp only [RepA] at e ⊢
    obtain ⟨⟨v, e1, e2, e3⟩, e4⟩ := e
    exact ⟨⟨v, (h.cell b off e2).trans e1, Nat.lt_of_lt_of_le e2 (h.fr b), Rep.mono h p v e3⟩, RepA.mono h b (off + 1) ps e4⟩
theorem RepR.mono {g g' : G} (h : Le g g') (b off sz : Nat) : ∀ (rs : List (List PV)), RepR g b off sz rs → RepR g' b off sz rs
  | [], _ => by simp [RepR]
  | r :: rs, e => by
    simp only [RepR] at e ⊢
    exact ⟨e.1, RepA.mono h b off r e.2.1, RepR.mono h b (off + sz) sz rs e.2.2⟩
theorem RepE.mono {g g' : G} (h : Le g g') : ∀ (es : List (Value × PV)) (ms : List MapEntry), RepE g es ms → RepE g' es ms
  | [], _, e => by simpa [RepE] using e
  | (k, p) :: es, ms, e => by
    simp only [RepE] at e ⊢
    obtain ⟨m, ms', e1, e2, e3, e4⟩ := e
    exact ⟨m, ms', e1, e2, Rep.mono h p m.val e3, RepE.mono h es ms' e4⟩
end

/-- Objects that a function may still write: 'tok': the right to append behind an 'own'; 'cells': a variable; 'arr': the rows of a slice; 'map': a map. -/
inductive AObj where
  | tok (T : TypeId)
  | cells (T : TypeId) (cs : List PV)
  | arr (T : TypeId) (rows : List (List PV))
  | map (es : List (Value × PV))

def blk (g : G) (id : Nat) : Option Nat :=
  match g.io id with
  | some (b, _, cap) => if cap = 0 then none else some b
  | none => none

/-- A map's entries bear stamps that rise, below its clock. -/
def Stamps (ents : List MapEntry) (clock : Nat) : Prop := ents.Pairwise (fun a b => a.born < b.born) ∧ ∀ e ∈ ents, e.born < clock

def ObjOK (P : Program) (g : G) (id : Nat) : AObj → Prop
  | .tok T => ∃ b n cap, g.io id = some (b, n, cap) ∧ (cap = 0 ∨ ∃ c, g.heap[b]? = some (.cells c T (0, 0)) ∧ c.size = cap * P.cellsOf T ∧ g.fr b = n * P.cellsOf T)
  | .cells T cs => ∃ b n cap vs, g.io id = some (b, n, cap) ∧ cap ≠ 0 ∧ g.heap[b]? = some (.cells vs T (0, 0)) ∧ RepL g cs vs.toList ∧ g.fr b = 0
  | .arr T rows => ∃ b cap vs sp, g.io id = some (b, rows.length, cap) ∧ cap ≠ 0 ∧ rows.length ≤ cap ∧ g.heap[b]? = some (.cells (vs ++ sp).toArray T (0, 0)) ∧ (vs ++ sp).length = cap * P.cellsOf T ∧ (∀ r ∈ rows, r.length = P.cellsOf T) ∧ RepL g rows.flatten vs ∧ g.fr b = 0
  | .map es => ∃ b n cap ents clock, g.io id = some (b, n, cap) ∧ cap ≠ 0 ∧ g.heap[b]? = some (.map ents clock) ∧ RepE g es ents.toList ∧ ¬ g.fm b ∧ Stamps ents.toList clock

abbrev Store := Nat → Option AObj

structure MemOK (P : Program) (st : Store) (w : World) (g : G) : Prop where
  heap : g.heap = w.heap
  obj : ∀ id o, st id = some o → ObjOK P g id o
  inj : ∀ id id' b, st id ≠ none → st id' ≠ none → blk g id = some b → blk g id' = some b → id = id'
  lt : ∀ b, g.fr b ≠ 0 → b < w.heap.size
  fmm : ∀ b, g.fm b → ∃ ents clock, w.heap[b]? = some (.map ents clock)
  fin : ∃ N, ∀ id, N ≤ id → g.io id = none

def Blocks (st : Store) (g : G) (b : Nat) : Prop := ∃ id, st id ≠ none ∧ blk g id = some b

/-- Of what was there nothing has turned, but for the blocks of B. -/
structure Frame (B : Nat → Prop) (w : World) (g : G) (w' : World) (g' : G) : Prop where
  os : w'.os = w.os
  tape : w'.tape = w.tape
  output : w'.output = w.output
  size : w.heap.size ≤ w'.heap.size
  old : ∀ b, b < w.heap.size → ¬ B b → w'.heap[b]? = w.heap[b]? ∧ g'.fr b = g.fr b ∧ (g'.fm b ↔ g.fm b)

theorem Frame.refl (B : Nat → Prop) (w : World) (g : G) : Frame B w g w g := ⟨rfl, rfl, rfl, Nat.le_refl _, fun _ _ _ => ⟨rfl, rfl, Iff.rfl⟩⟩
theorem Frame.trans {B B' : Nat → Prop} {w w1 w2 : World} {g g1 g2 : G} (h : Frame B w g w1 g1) (k : Frame B' w1 g1 w2 g2) (hB : ∀ b, b < w.heap.size → B' b → B b) : Frame B w g w2 g2 :=
  ⟨k.os.trans h.os, k.tape.trans h.tape, k.output.trans h.output, Nat.le_trans h.size k.size, fun b hb hn => by
    have h1 := h.old b hb hn
    have h2 := k.old b (Nat.lt_of_lt_of_le hb h.size) (fun x => hn (hB b hb x))
    exact ⟨h2.1.trans h1.1, h2.2.1.trans h1.2.1, h2.2.2.trans h1.2.2⟩⟩
theorem Frame.mono {B B' : Nat → Prop} {w w' : World} {g g' : G} (h : Frame B w g w' g') (hB : ∀ b, B b → B' b) : Frame B' w g w' g' :=
  ⟨h.os, h.tape, h.output, h.size, fun b hb hn => h.old b hb (fun x => hn (hB b x))⟩

/-- Is it a function with a body, that is entered? -/
def CallOK (P : Program) (f : FuncId) : Bool :=
  match P.funcs[f]? with
  | some fn => !(fn.name == "runtime.NumGoroutine") && fn.body.isSome
  | none => false

/-- The contract of a function: called in any world whose objects are those of 'st', with values that read as 'args', it returns one that reads as an 'r', with objects 'st'', that meet R; nothing else that was there has turned. -/
def PC (P : Program) (f : FuncId) (args : List PV) (st : Store) (R : PV → Store → Prop) : Prop :=
  CallOK P f = true ∧ ∀ w g vs, MemOK P st w g → RepL g args vs → Calls P f vs.toArray w fun e w' =>
    ∃ v r st' g', e = .returned v ∧ R r st' ∧ Rep g' r v ∧ MemOK P st' w' g' ∧ Le g g' ∧ Frame (Blocks st g) w g w' g' ∧ ∀ b, Blocks st' g' b → Blocks st g b ∨ w.heap.size ≤ b

/-- A function that answers r and turns nothing. -/
def PF (P : Program) (f : FuncId) (args : List PV) (r : PV) : Prop := ∀ st, PC P f args st fun r' st' => r' = r ∧ st' = st
