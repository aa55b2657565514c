/-
  ABS, part 7: the rules as a walk uses them.
-/
import Derived.Test.YtghjdkbmjjalmaaAbsOps
namespace Go.Abs
open Go

/-- One operation in a region that keeps its order: whatever it comes to meets K. -/
def WpA (P : Program) (l : List Oper) (o : Oper) (s : St) (K : St → Prop) : Prop :=
  ∀ c a w g lam, SI P c s a w g lam → ∀ (K' : Act → World → Prop) (Q : Exit → Act → World → Prop), (∀ s' a' w' g' lam', K s' → SI P c s' a' w' g' lam' → K' a' w') → OneOp P l o a w K' Q

def EvS (P : Program) (l : List Oper) : List Oper → St → (St → Prop) → Prop
  | [], s, K => K s
  | o :: r, s, K => WpA P l o s fun s' => EvS P l r s' K

def Ev (P : Program) (l : List Oper) (d : Bool) (r : List Oper) (s : St) (K : St → Prop) : Prop :=
  match d with
  | true => EvD P l r s K
  | false => EvS P l r s K

section
variable {P : Program} {l : List Oper} {d : Bool} {r : List Oper} {s : St} {K : St → Prop}

theorem ev_nil (h : K s) : Ev P l d [] s K := by cases d <;> exact h

theorem ev_step {o : Oper} {T : Tr} (h : AStep P l o s T) (k : Ev P l d r (T.app s) K) : Ev P l d (o :: r) s K := by
  cases d with
  | true => exact ⟨T, h, k⟩
  | false => exact fun c a w g lam hs K' Q hK => h.sound hs fun a' w' g' lam' hs' => hK _ _ _ _ _ k hs'

theorem EvS.sound {Q : Exit → St → Prop} : ∀ (r : List Oper) (s : St), EvS P l r s (Q .normal) → ∀ c a w g lam, SI P c s a w g lam →
    wpList P l.toArray (fun e a' w' => ∃ s' g' lam', Q e s' ∧ SI P c s' a' w' g' lam') r a w
  | [], s, h, c, a, w, g, lam, hs => ⟨s, g, lam, h, hs⟩
  | o :: r, s, h, c, a, w, g, lam, hs => by
    have := h c a w g lam hs (wpList P l.toArray (fun e a' w' => ∃ s' g' lam', Q e s' ∧ SI P c s' a' w' g' lam') r) (fun e a' w' => ∃ s' g' lam', Q e s' ∧ SI P c s' a' w' g' lam')
      (fun s' a' w' g' lam' k hs' => EvS.sound r s' k c a' w' g' lam' hs')
    unfold OneOp at this
    unfold wpList
    split at this
    · rename_i hw; rw [if_pos hw]; exact .inl this
    · rename_i hw; rw [if_neg hw]; exact this

theorem pwp_region {id : Nat} {Q : Exit → St → Prop} (h : Ev P l false l s (Q .normal)) : PWp P (.region id l.toArray false) Q s :=
  fun c a w g lam hs => wp_region_lit (EvS.sound l s h c a w g lam hs)

theorem pwp_region_draw {id : Nat} {Q : Exit → St → Prop} (hm : P.follows .mixedOrders = true) (hB : lexA l = true) (h : Ev P l true l s (Q .normal)) : PWp P (.region id l.toArray true) Q s :=
  pwp_draw hm hB h

/-- The operands that an operation looks at, as a list. -/
def opl : Op → List Operand
  | .move x | .assign x => [x]
  | .binOp _ _ x y _ => [x, y]
  | .unOp _ _ x => [x]
  | .extract x _ => [x]
  | .field _ x _ => [x]
  | .fieldAddr _ x _ => [x]
  | .load _ x => [x]
  | .convert _ _ x => [x]
  | .indexAddr _ x y | .index _ x y => [x, y]
  | .build _ ps | .buildSlice _ _ ps => ps.toList.map (·.2)
  | .call ⟨.builtin _, args, _⟩ => args.toList
  | .call ⟨.value f, args, _⟩ => f :: args.toList
  | .makeFunc _ _ caps => caps.toList
  | op => op.operands.toList

theorem opl_mem {op : Op} (h0 : ∀ fn a c, op = .makeFunc fn a c → a = #[]) {x : Operand} (h : x ∈ op.operands) : x ∈ opl op := by
  cases op <;> simp only [Op.operands, opl] at h ⊢ <;> try first | (simp at h; done) | (simpa using h)
  case call c =>
    obtain ⟨callee, args, ts⟩ := c
    cases callee <;> simp [Call.operands] at h ⊢ <;> simpa using h
  case makeFunc fn a c =>
    have := h0 fn a c rfl
    subst this
    simpa using h

def flagB (s : St) : Operand → Bool
  | .tmp t => (s.env t).1
  | _ => true
def flagsB (s : St) : List Operand → Bool
  | [] => true
  | x :: xs => flagB s x && flagsB s xs

theorem flagOK_iff {x : Operand} : flagOK s x ↔ flagB s x = true := by cases x <;> simp [flagOK, flagB]
theorem flagsB_mem : ∀ {xs : List Operand}, flagsB s xs = true → ∀ x ∈ xs, flagOK s x
  | [], _, x, hx => by cases hx
  | y :: xs, h, x, hx => by
    simp only [flagsB, Bool.and_eq_true] at h
    rcases List.mem_cons.1 hx with rfl | hx
    · exact flagOK_iff.2 h.1
    · exact flagsB_mem h.2 x hx

/-- The same under a guard: each as the operation itself. -/
def flagsG (s : St) (w : Bool) : List Operand → Prop
  | [] => True
  | x :: xs => (w = true → flagB s x = true) ∧ flagsG s w xs
theorem flagsG_mem {w : Bool} (hw : w = true) : ∀ {xs : List Operand}, flagsG s w xs → ∀ x ∈ xs, flagOK s x
  | [], _, x, hx => by cases hx
  | y :: xs, h, x, hx => by
    rcases List.mem_cons.1 hx with rfl | hx
    · exact flagOK_iff.2 (h.1 hw)
    · exact flagsG_mem hw h.2 x hx

theorem pval_makeFunc {tt : TT} {op : Op} {p : PV} (h : pval tt s op = some p) : ∀ fn a c, op = .makeFunc fn a c → a = #[] := by
  intro fn a c e
  subst e
  cases fn <;> simp only [pval] at h <;> try (cases h; done)
  split at h
  · rename_i hf _; simpa using hf
  · cases h

theorem gw_left {w x b : Bool} (h : gw w x b = true) : w = true := by cases w <;> first | rfl | simp [gw] at h
theorem gw_mk {w x : Bool} (hw : w = true) (hx : x = true) : gw w x true = true := by subst hw; subst hx; rfl
theorem gw_mkf {w x : Bool} (hw : w = true) (hx : x = false) : gw w x false = true := by subst hw; subst hx; rfl
theorem gw_t {w x : Bool} (h : gw w x true = true) : w = true ∧ x = true := by cases w <;> cases x <;> simp_all [gw]
theorem gw_f {w x : Bool} (h : gw w x false = true) : w = true ∧ x = false := by cases w <;> cases x <;> simp_all [gw]

variable {tt : TT} {t : Nat} {op : Op} {ty : TypeId} {pos : String} {after : Array Edge} {gd : Option (Nat × Bool)}

/-! unguarded -/
theorem ev_val (htt : TTOK P tt) {p : PV} (h : pval tt s op = some p) (hf : flagsB s (opl op) = true) (hd : Nat.blt t s.n = true) (k : Ev P l d r (s.pv t p) K) : Ev P l d (⟨some t, op, ty, pos, after, none⟩ :: r) s K :=
  ev_step (.val true p rfl hd (fun _ x hx => flagsB_mem hf x (opl_mem (pval_makeFunc h) hx)) (fun _ => pval_sound htt h)) k

theorem ev_opv {p : PV} (hv : OpV P ⟨some t, op, ty, pos, after, none⟩ s p) (hm : ∀ x ∈ op.operands, x ∈ opl op) (hf : flagsB s (opl op) = true) (hd : Nat.blt t s.n = true) (k : Ev P l d r (s.pv t p) K) : Ev P l d (⟨some t, op, ty, pos, after, none⟩ :: r) s K :=
  ev_step (.val true p rfl hd (fun _ x hx => flagsB_mem hf x (hm x hx)) (fun _ => hv)) k

/-! guarded -/
theorem ev_valg (htt : TTOK P tt) {w : Bool} {p : PV} (hw : wantA l ⟨some t, op, ty, pos, after, gd⟩ s = some w) (h : pval tt s op = some p) (hf : flagsG s w (opl op)) (hd : Nat.blt t s.n = true) (k : Ev P l d r (s.put (some t) w (.pv p)) K) :
    Ev P l d (⟨some t, op, ty, pos, after, gd⟩ :: r) s K :=
  ev_step (.val w p hw hd (fun hw' x hx => flagsG_mem hw' hf x (opl_mem (pval_makeFunc h) hx)) (fun _ => pval_sound htt h)) k

theorem ev_opvg {w : Bool} {p : PV} (hw : wantA l ⟨some t, op, ty, pos, after, gd⟩ s = some w) (hv : w = true → OpV P ⟨some t, op, ty, pos, after, gd⟩ s p) (hm : ∀ x ∈ op.operands, x ∈ opl op) (hf : flagsG s w (opl op)) (hd : Nat.blt t s.n = true)
    (k : Ev P l d r (s.put (some t) w (.pv p)) K) : Ev P l d (⟨some t, op, ty, pos, after, gd⟩ :: r) s K :=
  ev_step (.val w p hw hd (fun hw' x hx => flagsG_mem hw' hf x (hm x hx)) hv) k

/-! 'and', 'or' -/
theorem ev_and {w wt x y : Bool} {u : Nat} {a : Operand} (hw : wantA l ⟨some t, .pick (.tmp u) a (.const (.bool false)), ty, pos, after, gd⟩ s = some w) (hu : s.env u = (wt, .pv (.val (.bool x)))) (ha : opd s a = some (.val (.bool y)))
    (h1 : w = true → wt = true) (h2 : w = true → x = true → flagB s a = true) (hd : Nat.blt t s.n = true) (k : Ev P l d r (s.put (some t) w (.pv (.val (.bool (x && y))))) K) : Ev P l d (⟨some t, .pick (.tmp u) a (.const (.bool false)), ty, pos, after, gd⟩ :: r) s K :=
  ev_step (.pick w u a _ wt x _ hw hd rfl hu h1 (fun hw' hx => ⟨flagOK_iff.2 (h2 hw' hx), by rw [ha, hx]; rfl⟩) (fun _ hx => ⟨trivial, by rw [hx]; rfl⟩)) k
theorem ev_or {w wt x y : Bool} {u : Nat} {b : Operand} (hw : wantA l ⟨some t, .pick (.tmp u) (.const (.bool true)) b, ty, pos, after, gd⟩ s = some w) (hu : s.env u = (wt, .pv (.val (.bool x)))) (hb : opd s b = some (.val (.bool y)))
    (h1 : w = true → wt = true) (h2 : w = true → x = false → flagB s b = true) (hd : Nat.blt t s.n = true) (k : Ev P l d r (s.put (some t) w (.pv (.val (.bool (x || y))))) K) : Ev P l d (⟨some t, .pick (.tmp u) (.const (.bool true)) b, ty, pos, after, gd⟩ :: r) s K :=
  ev_step (.pick w u _ b wt x _ hw hd rfl hu h1 (fun _ hx => ⟨trivial, by rw [hx]; rfl⟩) (fun hw' hx => ⟨flagOK_iff.2 (h2 hw' hx), by rw [hb, hx]; rfl⟩)) k

/-! variables of the function's own -/
def padr (tt : TT) (s : St) : Op → Option (Bool × Nat × Nat)
  | .fieldAddr T (.tmp x) f => match s.env x with
    | (w, .adr t off) => match tiK tt T with
      | some (.struct fs) => match fs[f]? with
        | some (ft, o) => match tiSize tt ft with
          | some (_ + 1) => some (w, t, off + o)
          | _ => none
        | none => none
      | _ => none
    | _ => none
  | _ => none

theorem padr_ok (htt : TTOK P tt) {x : Bool × Nat × Nat} (h : padr tt s op = some x) : addrOf P s op = some x := by
  unfold padr at h
  split at h
  · rename_i T x f
    split at h
    · rename_i w t off hx
      split at h
      · rename_i fs hk
        split at h
        · rename_i ft o hf
          split at h
          · rename_i m hm
            injection h with h; subst h
            obtain ⟨fields, hu, hfs⟩ := tk_struct (tiK_ok htt hk).1
            rw [← hfs] at hf
            simp only [List.getElem?_map] at hf
            cases hfd : fields.toList[f]? with
            | none => rw [hfd] at hf; cases hf
            | some fd =>
              rw [hfd] at hf
              simp at hf
              have hfd' : fields[f]? = some fd := by simpa using hfd
              have := (tiSize_ok htt hm).2
              simp only [addrOf, hx, hu, hfd']
              rw [hf.1, this, hf.2]
              simp
          · cases h
        · cases h
      · cases h
    · cases h
  · cases h

theorem ev_adr (htt : TTOK P tt) {w wx : Bool} {T : TypeId} {x f u off : Nat} (hw : wantA l ⟨some t, .fieldAddr T (.tmp x) f, ty, pos, after, gd⟩ s = some w) (h : padr tt s (.fieldAddr T (.tmp x) f) = some (wx, u, off)) (h1 : w = true → wx = true) (hd : Nat.blt t s.n = true)
    (k : Ev P l d r (s.put (some t) w (.adr u off)) K) : Ev P l d (⟨some t, .fieldAddr T (.tmp x) f, ty, pos, after, gd⟩ :: r) s K :=
  ev_step (.adr w wx u off hw hd (padr_ok htt h) h1) k

/-- What a load of a variable's cells yields. -/
def pload (tt : TT) (T : TypeId) (cs : List PV) (off : Nat) : Option PV :=
  match tiAgg tt T, tiSize tt T with
  | some true, some n => bif Nat.ble (off + n) cs.length then forceL (cellsAt cs off n) fun ds => some (.agg ds) else none
  | some false, some _ => cs[off]?
  | _, _ => none

theorem ev_load (htt : TTOK P tt) {w wx : Bool} {T : TypeId} {x u off : Nat} {T' : TypeId} {cs : List PV} {p : PV} (hw : wantA l ⟨some t, .load T (.tmp x), ty, pos, after, gd⟩ s = some w) (hx : s.env x = (wx, .adr u off)) (hL : s.L u = some (T', cs))
    (h : pload tt T cs off = some p) (h1 : w = true → wx = true) (hd : Nat.blt t s.n = true) (k : Ev P l d r (s.put (some t) w (.pv p)) K) : Ev P l d (⟨some t, .load T (.tmp x), ty, pos, after, gd⟩ :: r) s K := by
  unfold pload at h
  split at h
  · rename_i n ha hn
    cases hb : Nat.ble (off + n) cs.length with
    | false => rw [hb] at h; simp at h
    | true =>
      rw [hb] at h
      simp only [cond_true, forceL_eq] at h
      injection h with h; subst h
      exact ev_step (.loadA w wx T x u off T' cs n hw hd rfl hx h1 hL (tiAgg_ok htt ha).1 (tiSize_ok htt hn).1 (Nat.le_of_ble_eq_true hb)) k
  · rename_i n ha hn
    exact ev_step (.load1 w wx T x u off T' cs p hw hd rfl hx h1 hL (tiAgg_ok htt ha).1 (tiAgg_ok htt ha).2 h) k
  · cases h

def pzero (tt : TT) (T : TypeId) : Option (List PV) := match tiZ tt T with | some z => forceL (z.map .val) some | none => none

theorem ev_alloc (htt : TTOK P tt) {T : TypeId} {cs : List PV} (h : pzero tt T = some cs) (hd : Nat.blt t s.n = true) (had : s.ad t = false) (k : Ev P l d r (s.var t T cs) K) : Ev P l d (⟨some t, .alloc T, ty, pos, after, none⟩ :: r) s K := by
  unfold pzero at h
  split at h
  · rename_i z hz
    rw [forceL_eq] at h
    injection h with h; subst h
    obtain ⟨v, h1, h2⟩ := tiZ_ok htt hz
    refine ev_step (.alloc t T v rfl rfl hd had rfl h1) ?_
    rw [h2]; exact k
  · cases h

def pcells : PV → List PV
  | .agg cs => cs
  | p => [p]
theorem pcells_eq (p : PV) : pcells p = p.cells := by cases p <;> rfl

/-- A value's cells, if they show. -/
def pbox (s : St) (x : Operand) : Option (List PV) :=
  match opd s x with
  | some p => bif p.flat then forceL (pcells p) some else none
  | none => none

theorem pbox_ok {x : Operand} {cs : List PV} (h : pbox s x = some cs) : ∃ p, opd s x = some p ∧ p.flat = true ∧ cs = p.cells := by
  unfold pbox at h
  split at h
  · rename_i p hp
    cases hf : p.flat with
    | false => rw [hf] at h; simp at h
    | true =>
      rw [hf] at h
      simp only [cond_true, forceL_eq] at h
      injection h with h
      exact ⟨p, hp, hf, by rw [← h, pcells_eq]⟩
  · cases h

theorem ev_box {T : TypeId} {x : Operand} {cs : List PV} (h : pbox s x = some cs) (hf : flagB s x = true) (hd : Nat.blt t s.n = true) (had : s.ad t = false) (k : Ev P l d r (s.var t T cs) K) : Ev P l d (⟨some t, .box T x, ty, pos, after, none⟩ :: r) s K := by
  obtain ⟨p, h1, h2, rfl⟩ := pbox_ok h
  exact ev_step (.box t T x p rfl rfl hd had rfl (flagOK_iff.2 hf) h1 h2) k

def pstore (tt : TT) (s : St) (T : TypeId) (y : Operand) (cs : List PV) (off : Nat) : Option (List PV) :=
  match pbox s y, tiSize tt T with
  | some ps, some n => bif Nat.beq ps.length n && Nat.ble (off + n) cs.length then forceL (setAt cs off ps) some else none
  | _, _ => none

def St.setv (s : St) (u : Nat) (T : TypeId) (cs : List PV) : St := { s with L := upd s.L u (some (T, cs)) }

theorem ev_store (htt : TTOK P tt) {T : TypeId} {x : Nat} {y : Operand} {u off : Nat} {T' : TypeId} {cs cs' : List PV} (hx : s.env x = (true, .adr u off)) (hL : s.L u = some (T', cs)) (h : pstore tt s T y cs off = some cs') (hf : flagB s y = true)
    (k : Ev P l d r (s.setv u T' cs') K) : Ev P l d (⟨none, .store T (.tmp x) y, ty, pos, after, none⟩ :: r) s K := by
  unfold pstore at h
  split at h
  · rename_i ps n hp hn
    obtain ⟨p, h1, h2, rfl⟩ := pbox_ok hp
    cases hb : (Nat.beq p.cells.length n && Nat.ble (off + n) cs.length) with
    | false => rw [hb] at h; simp at h
    | true =>
      rw [hb] at h
      simp only [cond_true, forceL_eq] at h
      injection h with h; subst h
      rw [Bool.and_eq_true] at hb
      have e1 := Nat.eq_of_beq_eq_true hb.1
      have e2 := Nat.le_of_ble_eq_true hb.2
      exact ev_step (.store T x y u off T' cs p rfl rfl rfl hx hL (flagOK_iff.2 hf) h1 h2 (by rw [e1]; exact (tiSize_ok htt hn).1) (by omega)) k
  · cases h
end
