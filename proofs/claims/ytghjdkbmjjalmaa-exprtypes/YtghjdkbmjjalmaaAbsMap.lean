/-
  ABS, part 12: maps: new ones, entries, look-ups; what nobody writes any more; what arguments bear in themselves.
-/
import Derived.Test.YtghjdkbmjjalmaaAbsMake
import Derived.MapKept
namespace Go.Abs
open Go

section
variable {P : Program} {tt : TT}

/-! ### Keys -/
def samek : Value → Value → Option Bool
  | .int k a, .int k' b => bif ikEq k k' then some (decide (a = b)) else none
  | .string a, .string b => some (decide (a = b))
  | .bool a, .bool b => some (a == b)
  | _, _ => none

def keyK : TK → Value → Bool
  | .int _, .int _ _ => true
  | .str, .string _ => true
  | .bool, .bool _ => true
  | _, _ => false

/-- What a map has under a key. -/
def mfind (k : Value) : List (Value × PV) → Option (Option PV)
  | [] => some none
  | e :: es => match samek k e.1 with
    | some true => some (some e.2)
    | some false => mfind k es
    | none => none

def kdOf (P : Program) (t : TypeId) : TypeDesc := (P.underlying t).getD .bool

theorem sameNow_of {kd : TypeDesc} {P : Program} {t : TypeId} (hu : P.underlying t = some kd) {k : TK} (hk : tkOf P t = k) {a b : Value} {r : Bool} (hc : keyK k a = true) (h : samek a b = some r) : Instr.sameNow kd a b = some r := by
  unfold keyK at hc
  split at hc
  · rename_i kk k2 n
    have := tk_int hk
    rw [hu] at this; injection this with this; subst this
    cases b <;> simp only [samek] at h <;> try (cases h; done)
    rename_i k3 m
    cases he : ikEq k2 k3 with
    | false => rw [he] at h; simp at h
    | true =>
      rw [he] at h
      simp only [cond_true] at h
      have := ikEq_eq he
      subst this
      simp only [Instr.sameNow, if_true]
      rw [← h]
      congr 1
  · rename_i s
    have := tk_str hk
    rw [hu] at this; injection this with this; subst this
    cases b <;> simp only [samek] at h <;> try (cases h; done)
    rename_i s2
    simp only [Instr.sameNow]
    rw [← h]
    congr 1
    by_cases he : s = s2
    · rw [decide_eq_true he]; exact (MapKept.bytes_beq s s2).2 he
    · rw [decide_eq_false he]
      cases hb : (s == s2) with
      | false => rfl
      | true => exact absurd ((MapKept.bytes_beq s s2).1 hb) he
  · rename_i s
    have : kd = .bool := by
      unfold tkOf at hk; rw [hu] at hk
      split at hk <;> simp_all
    subst this
    cases b <;> simp only [samek] at h <;> try (cases h; done)
    simp only [Instr.sameNow]
    rw [← h]
  · cases hc

theorem findNow_of {kd : TypeDesc} {t : TypeId} (hu : P.underlying t = some kd) {k : TK} (hk : tkOf P t = k) {g : G} {key : Value} (hc : keyK k key = true) : ∀ {es : List (Value × PV)} {ms : List MapEntry} {r : Option PV} (i : Nat), mfind key es = some r → RepE g es ms →
    match r with
    | none => Instr.findNow kd key ms i = some none
    | some p => ∃ j v, Instr.findNow kd key ms i = some (some (i + j, v)) ∧ Rep g p v ∧ (∃ e, ms[j]? = some e ∧ e.val = v)
  | [], ms, r, i, h, hr => by
    simp only [mfind] at h
    injection h with h; subst h
    simp only [RepE] at hr
    subst hr
    rfl
  | e :: es, ms, r, i, h, hr => by
    simp only [RepE] at hr
    obtain ⟨m, ms', rfl, h1, h2, h3⟩ := hr
    simp only [mfind] at h
    split at h
    · rename_i hs
      injection h with h; subst h
      rw [← h1] at hs
      refine ⟨0, m.val, by simp [Instr.findNow, sameNow_of hu hk hc hs], h2, m, by simp, rfl⟩
    · rename_i hs
      rw [← h1] at hs
      have := findNow_of hu hk hc (i + 1) h h3
      cases r with
      | none => simp only [Instr.findNow, sameNow_of hu hk hc hs]; exact this
      | some p =>
        obtain ⟨j, v, k1, k2, e', k3, k4⟩ := this
        refine ⟨j + 1, v, ?_, k2, e', by simpa using k3, k4⟩
        simp only [Instr.findNow, sameNow_of hu hk hc hs, k1]
        congr 3
        omega
    · cases h

theorem run_checkKey' {t : TypeId} {k : TK} (hk : tkOf P t = k) {key : Value} (hc : keyK k key = true) (hu : (P.underlying t).isSome = true) (b : Bool) (w : World) (n : Nat) : (Instr.checkKey b (n + 1) t key).run P w = .ok () w := by
  cases hu' : P.underlying t with
  | none => rw [hu'] at hu; cases hu
  | some kd =>
    unfold keyK at hc
    split at hc
    · have := tk_int hk
      simp [Instr.checkKey, run_underlying this]
    · have := tk_str hk
      simp [Instr.checkKey, run_underlying this]
    · have : kd = .bool := by
        unfold tkOf at hk; rw [hu'] at hk
        split at hk <;> simp_all
      subst this
      simp [Instr.checkKey, run_underlying hu']
    · cases hc
theorem run_checkKey {t : TypeId} {k : TK} (hk : tkOf P t = k) {key : Value} (hc : keyK k key = true) (hu : (P.underlying t).isSome = true) (b : Bool) (w : World) : (Instr.checkKey b 10000 t key).run P w = .ok () w :=
  run_checkKey' hk hc hu b w 9999

def plookup (tt : TT) (T : TypeId) (es : List (Value × PV)) (key : Value) (ok : Bool) : Option PV :=
  match tiK tt T with
  | some (.map kt e) => match tiK tt kt, pzv tt e, mfind key es with
    | some k, some z, some r => bif keyK k key then (match r with
        | some p => some (bif ok then .tup [p, .val (.bool true)] else p)
        | none => some (bif ok then .tup [z, .val (.bool false)] else z)) else none
    | _, _, _ => none
  | _ => none

theorem run_lookup (htt : TTOK P tt) {T : TypeId} {es : List (Value × PV)} {key : Value} {ok : Bool} {p : PV} (h : plookup tt T es key ok = some p) {g : G} {ents : Array MapEntry} (hr : RepE g es ents.toList) {x : Value} {w : World}
    (hx : (x = .map none ∧ ents = #[]) ∨ ∃ b clock, x = .map (some b) ∧ w.heap[b]? = some (.map ents clock)) : ∃ v, (Instr.lookup T x key ok).run P w = .ok v w ∧ Rep g p v := by
  unfold plookup at h
  split at h
  case h_2 => cases h
  rename_i kt e hT
  split at h
  case h_2 => cases h
  rename_i k z r hkt hz hr'
  cases hc : keyK k key with
  | false => rw [hc] at h; simp at h
  | true =>
    rw [hc] at h
    simp only [cond_true] at h
    have hu := tk_map (tiK_ok htt hT).1
    obtain ⟨hk1, hk2⟩ := tiK_ok htt hkt
    obtain ⟨zv, z1, z2⟩ := pzv_ok htt hz
    cases hkd : P.underlying kt with
    | none => rw [hkd] at hk2; cases hk2
    | some kd =>
      have hf := findNow_of hkd hk1 hc 0 hr' hr
      have main : ∀ (fr : Option (Nat × Value)), Instr.findNow kd key ents.toList 0 = some fr → (Instr.lookup T x key ok).run P w =
          ((match fr with
            | some (_, v) => pure (v, true)
            | none => do pure (← zeroValue e, false) : Sem (Value × Bool)) >>= fun (vo : Value × Bool) => pure (if ok then .tuple #[vo.1, .bool vo.2] else vo.1) : Sem Value).run P w := by
        intro fr hfr
        have hfk := MapKept.run_findKey (w := w) hkd hfr
        rcases hx with ⟨rfl, rfl⟩ | ⟨b, clock, rfl, hb⟩
        · simp only [Instr.lookup, Sem.run_bind, run_underlying hu, Result.andThen_ok, Sem.run_pure, run_checkKey hk1 hc hk2, hfk]
          cases fr <;> simp [Sem.run_bind, run_zeroValue z1]
        · simp only [Instr.lookup, Sem.run_bind, run_underlying hu, Result.andThen_ok, Sem.run_pure, MapKept.run_getObj_map hb, run_checkKey hk1 hc hk2, hfk]
          cases fr <;> simp [Sem.run_bind, run_zeroValue z1]
      cases r with
      | some q =>
        obtain ⟨j, v, f1, f2, _⟩ := hf
        refine ⟨if ok then .tuple #[v, .bool true] else v, ?_, ?_⟩
        · rw [main _ f1]; simp
        · simp only at h
          injection h with h; subst h
          cases ok with
          | true => simp only [cond_true, if_true, Rep]; exact ⟨[v, .bool true], rfl, by simp only [RepL]; exact ⟨v, _, rfl, f2, _, _, rfl, by simp [Rep], rfl⟩⟩
          | false => simpa using f2
      | none =>
        refine ⟨if ok then .tuple #[zv, .bool false] else zv, ?_, ?_⟩
        · rw [main _ hf]; simp [run_zeroValue z1]
        · simp only at h
          injection h with h; subst h
          cases ok with
          | true => simp only [cond_true, if_true, Rep]; exact ⟨[zv, .bool false], rfl, by simp only [RepL]; exact ⟨zv, _, rfl, z2 g, _, _, rfl, by simp [Rep], rfl⟩⟩
          | false => simpa using z2 g

/-- A map's entries, if nobody writes them any more. -/
def pents : PV → Option (List (Value × PV))
  | .fmap es => some es
  | .val (.map none) => some []
  | _ => none

theorem opv_lookup (htt : TTOK P tt) {o : Oper} {s : St} {T : TypeId} {x y : Operand} {ok : Bool} {q p : PV} {es : List (Value × PV)} {key : Value} (ho : o.op = .lookup T x y ok) (hx : opd s x = some q) (hq : pents q = some es) (hy : opd s y = some (.val key)) (h : plookup tt T es key ok = some p) : OpV P o s p := by
  refine opv_value fun w g ρ hm hρ => ?_
  have rx := hρ x (by rw [ho]; simp [Op.operands]) _ hx
  have ey := rep_val (hρ y (by rw [ho]; simp [Op.operands]) _ hy)
  have key' : ∃ ents, RepE g es ents.toList ∧ ((ρ x = .map none ∧ ents = #[]) ∨ ∃ b clock, ρ x = .map (some b) ∧ w.heap[b]? = some (.map ents clock)) := by
    unfold pents at hq
    split at hq
    · injection hq with hq; subst hq
      simp only [Rep] at rx
      obtain ⟨b, ents, clock, e1, e2, e3, e4⟩ := rx
      exact ⟨ents, e4, .inr ⟨b, clock, e1, by rw [← hm.heap]; exact e3⟩⟩
    · injection hq with hq; subst hq
      have := rep_val rx
      exact ⟨#[], by simp [RepE], .inl ⟨this, rfl⟩⟩
    · cases hq
  obtain ⟨ents, k1, k2⟩ := key'
  obtain ⟨v, h1, h2⟩ := run_lookup htt h k1 k2
  refine ⟨v, ?_, h2⟩
  simp only [execOp, ho, ey, Sem.run_bind, h1, Result.andThen_ok, Sem.run_pure]

section
variable {l : List Oper} {d : Bool} {r : List Oper} {s : St} {K : St → Prop} {t : Nat} {op : Op} {ty : TypeId} {pos : String} {after : Array Edge} {gd : Option (Nat × Bool)}

theorem ev_lookup (htt : TTOK P tt) {T : TypeId} {x y : Operand} {ok w : Bool} {q p : PV} {es : List (Value × PV)} {key : Value} (hw : wantA l ⟨some t, .lookup T x y ok, ty, pos, after, gd⟩ s = some w) (hx : opd s x = some q) (hq : pents q = some es) (hy : opd s y = some (.val key)) (hf : flagsG s w (opl (.lookup T x y ok))) (hd : Nat.blt t s.n = true)
    (h : plookup tt T es key ok = some p) (k : Ev P l d r (s.put (some t) w (.pv p)) K) : Ev P l d (⟨some t, .lookup T x y ok, ty, pos, after, gd⟩ :: r) s K :=
  ev_opvg hw (fun _ => opv_lookup htt rfl hx hq hy h) (fun z hz => opl_mem (fun _ _ _ e => by cases e) hz) hf hd k
end
end
end Go.Abs
