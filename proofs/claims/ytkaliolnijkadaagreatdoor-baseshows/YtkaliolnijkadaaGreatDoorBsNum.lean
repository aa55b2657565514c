import Derived.Test.YtkaliolnijkadaaGreatDoorBsVal
import Derived.Test.YtkaliolnijkadaaGreatDoorBsLay
import Derived.Test.YtkaliolnijkadaaGreatDoorAbsSort
import Derived.Test.YtkaliolnijkadaaGreatDoorAbsE
import Derived.Test.YtkaliolnijkadaaGreatDoorBsFn
import Derived.Test.YtkaliolnijkadaaGreatDoorAbsI
set_option linter.unusedSimpArgs false
set_option linter.unusedVariables false
namespace Go.Proofs.YtkaliolnijkadaaGreatDoor
open Go Go.Abs
attribute [local irreducible] Ev PWp
set_option maxRecDepth 10000
set_option maxHeartbeats 4000000
theorem sortI2_pc (zs : List Int) {st : Store} {id n : Nat} (hst : st id = some (.arr 3 (zs.map I1))) (hn : zs.length = n) (h62 : n < 4611686018427387904) :
    PC Tryz.prog 109 [.vec id 1 0 n] st fun _ S => S = upd st id (some (.arr 3 ((zs.mergeSort fun x y => decide (x ≤ y)).map I1))) :=
  sortI_pc (P := Tryz.prog) layI (by kernel_rfl) (by kernel_rfl) hst hn h62
theorem compact1_spec (id : Nat) : PF Tryz.prog 110 [.vec id 1 0 1] (.vec id 1 0 1) := by
  refine pf_of tt_ok Tryz.func110 (by kernel_rfl) rfl rfl rfl rfl (fun st => ?_)
  (try (apply wO pk; exact rfl)); (repeat' (first | (show All _; constructor) | (show Imp _ _; constructor) | (show ImpX _ _ _ _; constructor) | (apply wC pk; (iterate 2 exact rfl)) | (apply wE pk; (iterate 2 exact rfl)) | (apply wX pk; exact rfl) | (apply wN pk; exact rfl) | (apply wD pk [] []; kernel_rfl; exact rfl; exact rfl) | (apply pwp_condC; simp only [cond_true, cond_false]) | (refine pwp_cond rfl (fun h => ?_) (fun h => ?_) <;> (try simp at h) <;> try (exfalso; omega)) | (refine pwp_ret ?_; refine ⟨_, _, _, rfl, Wk.refl _, StSub.refl _, ?_, rfl⟩; try rfl) | (intros; (try simp only [List.length_map]); omega)))
theorem fresh_updN {st : Store} {id id' : Nat} {o : AObj} (h : upd st id (some o) id' = none) : st id' = none := by
  by_cases e : id' = id
  · subst e; rw [upd_same] at h; cases h
  · rwa [upd_ne e] at h
theorem bytesI : Tryz.prog.bytesOf 3 = 8 := by kernel_rfl
theorem numbers1_pc (c : Cl) (p : Pt) (hc : c.parts = [p]) (st : Store) : PC Tryz.prog 76 [.agg c.cells] st fun r S => ∃ id, r = .vec id 1 0 1 ∧ st id = none ∧ ∃ o, S = upd st id (some o) := by
  have hm : c.parts.map Pt.cells = [Pt.cells p] := by rw [hc]; rfl
  have hm0 : (c.parts.map Pt.cells)[0]? = some (Pt.cells p) := by rw [hm]; rfl
  have hml : (c.parts.map Pt.cells).length = 1 := by rw [hm]; rfl
  have hcs := compact1_spec
  refine pc_of tt_ok Tryz.func76 (by kernel_rfl) rfl rfl rfl rfl ?_
  (try (apply wO pk; exact rfl)); (repeat' (first | (show All _; constructor) | (show Imp _ _; constructor) | (show ImpX _ _ _ _; constructor) | (apply wC pk; (iterate 2 exact rfl)) | (apply wE pk; (iterate 2 exact rfl)) | (apply wX pk; exact rfl) | (apply wN pk; exact rfl) | (apply wD pk [] []; kernel_rfl; exact rfl; exact rfl) | (apply pwp_condC; simp only [cond_true, cond_false]) | (refine pwp_cond rfl (fun h => ?_) (fun h => ?_) <;> (try simp at h) <;> try (exfalso; omega)) | (refine pwp_ret ?_; refine ⟨_, _, _, rfl, Wk.refl _, StSub.refl _, ?_, rfl⟩; try rfl) | (intros; (try simp only [List.length_map]); omega)))
  refine pwp_empV 3 3 1 rfl rfl rfl (fun id hid => ?_)
  refine pwp_loop (X := { x : Nat × Nat // x.1 ≤ 1 ∧ st x.2 = none }) (fun i => (((((St.nil 24 (upd st i.1.2 (some (.arr 3 (([p.val.n].take i.1.1).map I1))))).pv 3 (.vec i.1.2 1 0 i.1.1)).pv 7 (.seq (c.parts.map Pt.cells))).pv 8 ((PV.val (Value.int .i64 ((1 : Nat)))))).pv 9 ((PV.val (Value.int .i64 ((i.1.1 : Nat))))))) (fun i => 1 - i.1.1) ⟨(0, id), by simp, hid⟩ ?_ (fun i => ?_)
  · dsimp only
    (first | exact Sub.nil _ _ _ (StSub.refl _) rfl | ((repeat (first | refine Sub.pv ?_ rfl | refine Sub.var ?_ rfl rfl | refine Sub.pv' ?_ rfl (by first | rfl | (rw [hml])) | refine Sub.var' ?_ rfl rfl (by first | rfl | (rw [hml])))); (first | exact Sub.nil _ _ _ (StSub.refl _) rfl | exact Sub.nil _ _ _ (stsub_swap (by assumption)) rfl | exact Sub.nil _ _ _ (stsub_eq (by first | rfl | exact upd_eta (by assumption) | ((simp only [St.pv, St.put, St.sst, St.setv, St.nil, St.var, upd_upd]); first | done | rfl))) rfl | (refine Sub.nil _ _ _ (stsub_eq ?_) rfl; (simp only [St.pv, St.put, St.sst, St.setv, St.nil, St.var, upd_upd]); (rw [upd4 (by assumption)]); first | done | rfl))))
  obtain ⟨⟨i, id⟩, hi, hid⟩ := i
  simp only at hi hid
  dsimp only
  rcases (show i = 0 ∨ i = 1 by omega) with rfl | rfl
  · (try (apply wO pk; exact rfl)); (repeat' (first | (show All _; constructor) | (show Imp _ _; constructor) | (show ImpX _ _ _ _; constructor) | (apply wC pk; (iterate 2 exact rfl)) | (apply wE pk; (iterate 2 exact rfl)) | (apply wX pk; exact rfl) | (apply wN pk; exact rfl) | (apply wD pk [] []; kernel_rfl; exact rfl; exact rfl) | (apply pwp_condC; simp only [cond_true, cond_false]) | (refine pwp_cond rfl (fun h => ?_) (fun h => ?_) <;> (try simp at h) <;> try (exfalso; omega)) | (refine pwp_ret ?_; first | (refine ⟨_, _, _, rfl, Wk.refl _, StSub.refl _, ?_, rfl⟩; (first | rfl)) | (refine ⟨_, _, _, rfl, Wk.refl _, stsub_drop (by assumption), ?_, rfl⟩; (first | rfl)) | (refine ⟨_, _, _, rfl, Wk.soft _, StSub.refl _, ?_, rfl⟩; (first | rfl)) | (refine ⟨_, _, _, rfl, Wk.soft _, stsub_drop (by assumption), ?_, rfl⟩; (first | rfl)) | (refine ⟨_, _, _, rfl, Wk.refl _, StSub.refl _, ?_, rfl⟩) | (refine ⟨_, _, _, rfl, Wk.soft _, stsub_drop (by assumption), ?_, rfl⟩)) | (apply idxS pk; (iterate 6 exact rfl); rotate_left; exact rfl; (intro hw; exact rfl); (intro hw; apply (fun _ : 0 < 1 => hm0) <;> omega); (intro _; exact rfl); exact rfl) | (apply apV pk (f := I1) [p.val.n] 8; (iterate 9 exact rfl); (first | exact upd_same _ _ _ | assumption | (focus ((repeat (first | exact upd_same _ _ _ | assumption | refine (upd_ne (by assumption)).trans ?_)); done))); (first | omega | assumption | (focus (simp; done)) | (focus (simp; omega)) | (focus (simp at *; omega))); exact fun _ => rfl; exact fun _ => rfl; exact bytesI; (first | omega | assumption | (focus (simp; done)) | (focus (simp; omega)) | (focus (simp at *; omega))); (first | omega | assumption | (focus (simp; done)) | (focus (simp; omega)) | (focus (simp at *; omega))); exact rfl; intro id' hid') | (apply ap0 pk (f := I1) [p.val.n] 8; (iterate 10 exact rfl); exact fun _ => rfl; exact fun _ => rfl; exact bytesI; (first | omega | assumption | (focus (simp; done)) | (focus (simp; omega)) | (focus (simp at *; omega))); (first | omega | assumption | (focus (simp; done)) | (focus (simp; omega)) | (focus (simp at *; omega))); exact rfl; intro id' hid') | (refine ⟨⟨(1, id'), by simp only; omega, fresh_updN hid'⟩, ?_, by simp only; omega⟩; ((dsimp only)); (first | exact Sub.nil _ _ _ (StSub.refl _) rfl | ((repeat (first | refine Sub.pv ?_ rfl | refine Sub.var ?_ rfl rfl | refine Sub.pv' ?_ rfl (by (first | rfl | simp)) | refine Sub.var' ?_ rfl rfl (by (first | rfl | simp)))); (first | exact Sub.nil _ _ _ (StSub.refl _) rfl | exact Sub.nil _ _ _ (stsub_swap (by assumption)) rfl | exact Sub.nil _ _ _ (stsub_eq (by first | rfl | exact upd_eta (by assumption) | ((simp only [St.pv, St.put, St.sst, St.setv, St.nil, St.var, upd_upd]); first | done | rfl))) rfl | (refine Sub.nil _ _ _ (stsub_eq ?_) rfl; (simp only [St.pv, St.put, St.sst, St.setv, St.nil, St.var, upd_upd]); (rw [upd4 (by assumption)]); first | done | rfl))))) | (intros; (try simp only [List.length_map]); omega)))
  · have hso := sortI2_pc ([p.val.n].take 1) (st := upd st id (some (.arr 3 (([p.val.n].take 1).map I1)))) (id := id) (n := 1) (upd_same _ _ _) rfl (by decide)
    (try (apply wO pk; exact rfl)); (repeat' (first | (show All _; constructor) | (show Imp _ _; constructor) | (show ImpX _ _ _ _; constructor) | (apply wC pk; (iterate 2 exact rfl)) | (apply wE pk; (iterate 2 exact rfl)) | (apply wX pk; exact rfl) | (apply wN pk; exact rfl) | (apply wDx pk; exact rfl; kernel_rfl; exact rfl; exact rfl) | (apply pwp_condC; simp only [cond_true, cond_false]) | (refine pwp_cond rfl (fun h => ?_) (fun h => ?_) <;> (try simp at h) <;> try (exfalso; omega)) | ((try refine pwp_ret ?_); (first | (refine ⟨_, _, _, rfl, Wk.refl _, StSub.refl _, ?_⟩; (exact ⟨id, rfl, hid, _, upd_upd _ _ _ _⟩); done) | (refine ⟨_, _, ?zs, rfl, Wk.refl _, ?zh, ?zr⟩; (case zh => (refine stsub_over ?_ (by assumption); (repeat refine stsub_over ?_ (by assumption)); exact StSub.refl _)); (case zr => (exact ⟨id, rfl, hid, _, upd_upd _ _ _ _⟩))) | refine ⟨_, _, _, rfl, Wk.refl _, StSub.refl _, ?_⟩)) | (apply callS; (iterate 3 exact rfl); (intro _; apply (hcs id) <;> first | assumption | omega); rotate_left; (iterate 2 exact rfl)) | (apply callV; (iterate 3 exact rfl); (intro _; apply (hcs id) <;> first | assumption | omega); rotate_left; (iterate 2 exact rfl)) | (apply ncA; (iterate 3 exact rfl); rotate_left; exact rfl; exact rfl) | (apply ldR pk; exact rfl; exact rfl; rotate_left; exact rfl; (first | exact upd_same _ _ _ | assumption | (focus ((repeat (first | exact upd_same _ _ _ | assumption | refine (upd_ne (by assumption)).trans ?_)); done))); exact rfl; exact rfl) | (apply stR pk; exact rfl; exact rfl; (first | exact upd_same _ _ _ | assumption | (focus ((repeat (first | exact upd_same _ _ _ | assumption | refine (upd_ne (by assumption)).trans ?_)); done))); exact rfl; exact rfl) | (apply callP; exact rfl; exact rfl; (apply hso <;> first | exact upd_same _ _ _ | assumption | omega | (first | exact upd_same _ _ _ | assumption | (focus ((repeat (first | exact upd_same _ _ _ | assumption | refine (upd_ne (by assumption)).trans ?_)); done)))); (iterate 3 exact rfl); intro _ st' hR; obtain rfl := hR) | (apply callP; exact rfl; exact rfl; (first | (apply fail_no_spec <;> first | exact upd_same _ _ _ | assumption | omega | (simp only [Array.size_setIfInBounds]; omega) | (first | exact upd_same _ _ _ | assumption | (focus ((repeat (first | exact upd_same _ _ _ | assumption | refine (upd_ne (by assumption)).trans ?_)); done))))); (iterate 3 exact rfl); intro _ st' hR; (first | subst hR | obtain ⟨rfl, rfl⟩ := hR)) | (intros; (try simp only [List.length_map]); omega)))
theorem bshow1_spec (c : Cl) (p : Pt) (hc : c.parts = [p]) : PF Tryz.prog 56 [.agg c.cells] (.agg (Vl.mk 1 1 e0).cells) := by
  intro st
  have hn := numbers1_pc c p hc st
  refine pc_of tt_ok Tryz.func56 (by kernel_rfl) rfl rfl rfl rfl ?_
  (try (apply wO pk; exact rfl)); (repeat' (first | ((refine pwp_ret ?_; exact ⟨_, _, st, rfl, Wk.refl _, stsub_over (StSub.refl _) hid, rfl, rfl⟩)) | (show All _; constructor) | (show Imp _ _; constructor) | (show ImpX _ _ _ _; constructor) | (apply wC pk; (iterate 2 exact rfl)) | (apply wE pk; (iterate 2 exact rfl)) | (apply wX pk; exact rfl) | (apply wN pk; exact rfl) | (apply wDx pk; exact rfl; kernel_rfl; exact rfl; exact rfl) | (apply pwp_condC; simp only [cond_true, cond_false]) | (refine pwp_cond rfl (fun h => ?_) (fun h => ?_) <;> (try simp at h) <;> try (exfalso; omega)) | ((try refine pwp_ret ?_); (first | (refine ⟨_, _, _, rfl, Wk.refl _, StSub.refl _, ?_⟩; ((fail)); done) | (refine ⟨_, _, ?zs, rfl, Wk.refl _, ?zh, ?zr⟩; (case zh => (refine stsub_over ?_ (by assumption); (repeat refine stsub_over ?_ (by assumption)); exact StSub.refl _)); (case zr => ((fail)))) | refine ⟨_, _, _, rfl, Wk.refl _, StSub.refl _, ?_⟩)) | (apply ncA; (iterate 3 exact rfl); rotate_left; exact rfl; exact rfl) | (apply ldR pk; exact rfl; exact rfl; rotate_left; exact rfl; (first | exact upd_same _ _ _ | assumption | (focus ((repeat (first | exact upd_same _ _ _ | assumption | refine (upd_ne (by assumption)).trans ?_)); done))); exact rfl; exact rfl) | (apply stR pk; exact rfl; exact rfl; (first | exact upd_same _ _ _ | assumption | (focus ((repeat (first | exact upd_same _ _ _ | assumption | refine (upd_ne (by assumption)).trans ?_)); done))); exact rfl; exact rfl) | (apply callP; exact rfl; exact rfl; (apply hn <;> first | exact upd_same _ _ _ | assumption | omega | (first | exact upd_same _ _ _ | assumption | (focus ((repeat (first | exact upd_same _ _ _ | assumption | refine (upd_ne (by assumption)).trans ?_)); done)))); (iterate 3 exact rfl); intro _ st' hR; obtain ⟨id, rfl, hid, o, rfl⟩ := hR) | (apply callP; exact rfl; exact rfl; (first | (apply fail_no_spec <;> first | exact upd_same _ _ _ | assumption | omega | (simp only [Array.size_setIfInBounds]; omega) | (first | exact upd_same _ _ _ | assumption | (focus ((repeat (first | exact upd_same _ _ _ | assumption | refine (upd_ne (by assumption)).trans ?_)); done))))); (iterate 3 exact rfl); intro _ st' hR; (first | subst hR | obtain ⟨rfl, rfl⟩ := hR)) | (intros; (try simp only [List.length_map]); omega)))
end Go.Proofs.YtkaliolnijkadaaGreatDoor
namespace Go.Proofs.YtkaliolnijkadaaGreatDoor
open Go Go.Abs
attribute [local irreducible] Ev PWp
set_option maxRecDepth 10000
set_option maxHeartbeats 4000000
def abc : ByteArray := ⟨#[97, 98, 99, 100, 101, 102, 103, 104, 105, 106, 107, 108, 109, 110, 111, 112, 113, 114, 115, 116, 117, 118, 119, 120, 121, 122]⟩
def abc9 : ByteArray := ⟨#[97, 98, 99, 100, 101, 102, 103, 104, 105, 106, 107, 108, 109, 110, 111, 112, 113, 114, 115, 116, 117, 118, 119, 120, 121, 122, 48, 49, 50, 51, 52, 53, 54, 55, 56, 57, 95]⟩
def lowB (b : UInt8) : Bool := decide (97 ≤ b.toNat) && decide (b.toNat ≤ 122)
def alB (b : UInt8) : Bool := (lowB b || (decide (48 ≤ b.toNat) && decide (b.toNat ≤ 57))) || decide (b.toNat = 95)
theorem u8_all {p : UInt8 → Bool} (h : ((List.range 256).all fun n => p (UInt8.ofNat n)) = true) (b : UInt8) : p b = true := by
  have := List.all_eq_true.1 h b.toNat (List.mem_range.2 b.toNat_lt)
  simpa using this
theorem abc9_al (b : UInt8) : abc9.data.toList.contains b = alB b := by
  have := u8_all (p := fun b => abc9.data.toList.contains b == alB b) (by decide +kernel) b
  simpa using this
theorem abc_low (b : UInt8) : decide (firstIdx abc b ≥ 0) = lowB b := by
  have := u8_all (p := fun b => decide (firstIdx abc b ≥ 0) == lowB b) (by decide +kernel) b
  simpa using this
theorem drop_nil {α : Type} {p : α → Bool} : ∀ {l : List α}, l.dropWhile p = [] ↔ ∀ x ∈ l, p x = true
  | [] => by simp
  | a :: l => by
    rw [List.dropWhile_cons]
    cases h : p a with
    | true => simp [h, drop_nil (l := l)]
    | false => simp [h]
theorem trimS_nil {l cs : List UInt8} : Lib.trimS l cs = [] ↔ ∀ x ∈ l, cs.contains x = true := by
  have drop_mem : ∀ {m : List UInt8} {p : UInt8 → Bool}, (∀ x ∈ m, p x = true) ↔ ∀ x ∈ m.dropWhile p, p x = true := by
    intro m p
    constructor
    · exact fun h x hx => h x (List.dropWhile_sublist p |>.subset hx)
    · intro h
      cases e : m.dropWhile p with
      | nil => exact drop_nil.1 e
      | cons a rs =>
        have h1 := h a (by rw [e]; simp)
        have h2 := List.head_dropWhile_not p (l := m) (by rw [e]; simp)
        simp only [e, List.head_cons] at h2
        rw [h1] at h2; cases h2
  unfold Lib.trimS Lib.trimLeftS Lib.trimRightS
  rw [drop_nil]
  have := drop_mem (m := l.reverse) (p := fun x => cs.contains x)
  simp only [List.mem_reverse] at this ⊢
  exact this.symm
theorem info_set : (Tryz.prog.info? (renT.t 116)).map (fun i => (i.zero, i.size)) = some (some (.agg (Array.replicate 256 (.bool false))), 256) := by kernel_rfl
theorem trim_spec (s : ByteArray) (h0 : 0 < s.size) (hs : s.size ≤ 9223372036854775807) : PF Tryz.prog 114 [(PV.val (Value.string (s))), (PV.val (Value.string (abc9)))] (PV.val (Value.string (⟨(Lib.trimS s.data.toList abc9.data.toList).toArray⟩))) :=
  pf_two (by kernel_rfl) fun w => (Any.strings_Trim_set layT (zero_of_info info_set).1 (zero_of_info info_set).2 s abc9 w (by decide) h0 hs (by decide) (ascii_of_all (by decide))).mono fun e w' ⟨h1, q, h2⟩ => ⟨h1, .inr ⟨_, _, q, h2⟩⟩
theorem trim_empty (s : ByteArray) (h : s.data.toList.all alB = true) : (⟨(Lib.trimS s.data.toList abc9.data.toList).toArray⟩ : ByteArray) = e0 := by
  rw [trimS_nil.2 fun x hx => by rw [abc9_al]; exact List.all_eq_true.1 h x hx]
theorem trim_not (s : ByteArray) (h : s.data.toList.all alB = false) : (⟨(Lib.trimS s.data.toList abc9.data.toList).toArray⟩ : ByteArray) ≠ e0 := fun e => by
  have : Lib.trimS s.data.toList abc9.data.toList = [] := by
    have := congrArg (fun b : ByteArray => b.data.toList) e
    simpa using this
  rw [trimS_nil] at this
  rw [← Bool.not_eq_true, List.all_eq_true] at h
  exact h fun x hx => by rw [← abc9_al]; exact this x hx
theorem idxByte_spec (b : ByteArray) (c : UInt8) : PF Tryz.prog 212 [(PV.val (Value.string (b))), .val (.int .u8 (c.toNat : Int))] (PV.val (Value.int .i64 (firstIdx b c))) := by
  have e : (((c.toNat : Nat) : Int).toNat).toUInt8 = c := by simp
  refine pf_of tt_ok Tryz.func212 (by kernel_rfl) rfl rfl rfl rfl (fun st => ?_)
  (try (apply wO pk; exact rfl)); (repeat' (first | (show All _; constructor) | (show Imp _ _; constructor) | (show ImpX _ _ _ _; constructor) | (apply wC pk; (iterate 2 exact rfl)) | (apply wE pk; (iterate 2 exact rfl)) | (apply wX pk; exact rfl) | (apply wN pk; exact rfl) | (apply wD pk [] []; kernel_rfl; exact rfl; exact rfl) | (apply pwp_condC; simp only [cond_true, cond_false]) | (refine pwp_cond rfl (fun h => ?_) (fun h => ?_) <;> (try simp at h) <;> try (exfalso; omega)) | (refine pwp_ret ?_; refine ⟨_, _, _, rfl, Wk.refl _, StSub.refl _, ?_, rfl⟩; try first | rfl | ((rw [e]); done)) | ((apply byteAt pk; exact rfl; exact rfl; exact Tryz.func224; kernel_rfl; kernel_rfl; kernel_rfl; kernel_rfl; exact rfl; exact rfl; rotate_left; exact rfl; exact rfl)) | (intros; (try simp only [List.length_map]); omega)))
def one (c : UInt8) : ByteArray := ⟨#[c]⟩
theorem sidx_spec (c : UInt8) : PF Tryz.prog 190 [(PV.val (Value.string (abc))), (PV.val (Value.string (one c)))] (PV.val (Value.int .i64 (firstIdx abc c))) := by
  have hb := idxByte_spec abc c
  have hz : (one c).size = 1 := rfl
  have hg : (one c)[0]? = some c := rfl
  have hne : ¬ (one c = abc) := fun e => by have := congrArg ByteArray.size e; rw [hz] at this; cases this
  have hno : ¬ (one c = ByteArray.empty ∨ one c = abc) := fun q => q.elim (fun e => by have := congrArg ByteArray.size e; rw [hz] at this; cases this) hne
  refine pf_of tt_ok Tryz.func190 (by kernel_rfl) rfl rfl rfl rfl (fun st => ?_)
  (try (apply wO pk; exact rfl)); (repeat' (first | (exact absurd (by assumption) hno) | (show All _; constructor) | (show Imp _ _; constructor) | (show ImpX _ _ _ _; constructor) | (apply wC pk; (iterate 2 exact rfl)) | (apply wE pk; (iterate 2 exact rfl)) | (apply wX pk; exact rfl) | (apply wN pk; exact rfl) | (apply wD pk [] []; kernel_rfl; exact rfl; exact rfl) | (apply pwp_condC; simp only [cond_true, cond_false]) | (refine pwp_cond rfl (fun h => ?_) (fun h => ?_) <;> (try simp at h) <;> try (exfalso; omega)) | (refine pwp_ret ?_; refine ⟨_, _, _, rfl, Wk.refl _, StSub.refl _, ?_, rfl⟩; try rfl) | (apply callS; (iterate 3 exact rfl); (intro _; apply hb <;> first | assumption | omega); rotate_left; (iterate 2 exact rfl)) | (apply uXor; (iterate 4 exact rfl); (first | omega | decide); (first | omega | decide); exact rfl) | (apply uAnd; (iterate 4 exact rfl); (first | omega | decide); (first | omega | decide); exact rfl) | (apply uShl 7; (iterate 5 exact rfl); (first | omega | decide); exact rfl) | (apply uShl 8; (iterate 5 exact rfl); (first | omega | decide); exact rfl) | (apply uShl 13; (iterate 5 exact rfl); (first | omega | decide); exact rfl) | (apply uShl 16; (iterate 5 exact rfl); (first | omega | decide); exact rfl) | (apply uShl 17; (iterate 5 exact rfl); (first | omega | decide); exact rfl) | (apply uShl 32; (iterate 5 exact rfl); (first | omega | decide); exact rfl) | (apply uShl; (iterate 5 exact rfl); (first | omega | decide); exact rfl) | (apply uShr 7; (iterate 5 exact rfl); (first | omega | decide); exact rfl) | (apply uShr 8; (iterate 5 exact rfl); (first | omega | decide); exact rfl) | (apply uShr 13; (iterate 5 exact rfl); (first | omega | decide); exact rfl) | (apply uShr 16; (iterate 5 exact rfl); (first | omega | decide); exact rfl) | (apply uShr 17; (iterate 5 exact rfl); (first | omega | decide); exact rfl) | (apply uShr 32; (iterate 5 exact rfl); (first | omega | decide); exact rfl) | (apply uShr; (iterate 5 exact rfl); (first | omega | decide); exact rfl) | (apply uSub (b := 1); (iterate 5 exact rfl); (first | omega | decide); (first | omega | decide); exact rfl) | (apply cvA pk.htt; (iterate 5 exact rfl); (refine ⟨?_, ?_⟩ <;> (first | omega | decide)); exact rfl) | (apply sxA pk.htt 0 c; (iterate 6 exact rfl); exact hg; exact rfl) | (intros; (try simp only [List.length_map]); omega)))
theorem conts_spec (c : UInt8) : PF Tryz.prog 115 [(PV.val (Value.string (abc))), (PV.val (Value.string (one c)))] (PV.val (Value.bool (lowB c))) := by
  have h1 := sidx_spec c
  have h2 : PF Tryz.prog 160 [(PV.val (Value.string (abc))), (PV.val (Value.string (one c)))] (PV.val (Value.int .i64 (firstIdx abc c))) := by
    refine pf_of tt_ok Tryz.func160 (by kernel_rfl) rfl rfl rfl rfl (fun st => ?_)
    (try (apply wO pk; exact rfl)); (repeat' (first | (show All _; constructor) | (show Imp _ _; constructor) | (show ImpX _ _ _ _; constructor) | (apply wC pk; (iterate 2 exact rfl)) | (apply wE pk; (iterate 2 exact rfl)) | (apply wX pk; exact rfl) | (apply wN pk; exact rfl) | (apply wD pk [] []; kernel_rfl; exact rfl; exact rfl) | (apply pwp_condC; simp only [cond_true, cond_false]) | (refine pwp_cond rfl (fun h => ?_) (fun h => ?_) <;> (try simp at h) <;> try (exfalso; omega)) | (refine pwp_ret ?_; refine ⟨_, _, _, rfl, Wk.refl _, StSub.refl _, ?_, rfl⟩; try rfl) | (apply callS; (iterate 3 exact rfl); (intro _; apply h1 <;> first | assumption | omega); rotate_left; (iterate 2 exact rfl)) | (intros; (try simp only [List.length_map]); omega)))
  refine pf_of tt_ok Tryz.func115 (by kernel_rfl) rfl rfl rfl rfl (fun st => ?_)
  (try (apply wO pk; exact rfl)); (repeat' (first | (show All _; constructor) | (show Imp _ _; constructor) | (show ImpX _ _ _ _; constructor) | (apply wC pk; (iterate 2 exact rfl)) | (apply wE pk; (iterate 2 exact rfl)) | (apply wX pk; exact rfl) | (apply wN pk; exact rfl) | (apply wD pk [] []; kernel_rfl; exact rfl; exact rfl) | (apply pwp_condC; simp only [cond_true, cond_false]) | (refine pwp_cond rfl (fun h => ?_) (fun h => ?_) <;> (try simp at h) <;> try (exfalso; omega)) | (refine pwp_ret ?_; refine ⟨_, _, _, rfl, Wk.refl _, StSub.refl _, ?_, rfl⟩; try first | rfl | ((rw [← abc_low]); done)) | (apply callS; (iterate 3 exact rfl); (intro _; apply h2 <;> first | assumption | omega); rotate_left; (iterate 2 exact rfl)) | (intros; (try simp only [List.length_map]); omega)))
def nameB (s : ByteArray) : Bool := match s.data.toList with
  | [] => false
  | c :: l => lowB c && (decide (s.size ≤ 12) && (c :: l).all alB)
theorem size_list (s : ByteArray) : s.size = s.data.toList.length := (Array.length_toList (xs := s.data)).symm
theorem name_spec (s : ByteArray) : PF Tryz.prog 79 [(PV.val (Value.string (s)))] (PV.val (Value.bool (nameB s))) := by
  unfold nameB
  cases hl : s.data.toList with
  | nil =>
    obtain rfl : s = e0 := by
      apply ByteArray.ext
      apply Array.toList_inj.1
      rw [hl]
    refine pf_of tt_ok Tryz.func79 (by kernel_rfl) rfl rfl rfl rfl (fun st => ?_)
    (try (apply wO pk; exact rfl)); (repeat' (first | (show All _; constructor) | (show Imp _ _; constructor) | (show ImpX _ _ _ _; constructor) | (apply wC pk; (iterate 2 exact rfl)) | (apply wE pk; (iterate 2 exact rfl)) | (apply wX pk; exact rfl) | (apply wN pk; exact rfl) | (apply wD pk [] []; kernel_rfl; exact rfl; exact rfl) | (apply pwp_condC; simp only [cond_true, cond_false]) | (refine pwp_cond rfl (fun h => ?_) (fun h => ?_) <;> (try simp at h) <;> try (exfalso; omega)) | (refine pwp_ret ?_; refine ⟨_, _, _, rfl, Wk.refl _, StSub.refl _, ?_, rfl⟩; try rfl) | (apply callS; (iterate 3 exact rfl); (intro _; (first | apply (show PF Tryz.prog 114 [_, _] (PV.val (Value.string (e0))) from by rename_i hh; exact absurd (show false = true from hh) (by simp)) | apply (show PF Tryz.prog 115 [_, _] (PV.val (Value.bool (false))) from by rename_i hh; exact absurd (show false = true from hh) (by simp))) <;> first | assumption | omega); rotate_left; (iterate 2 exact rfl)) | (apply slT pk 0 1; (iterate 3 exact rfl); rotate_left; exact rfl; (intro _; exact bnd_none); (intro _; exact bnd_some rfl rfl); (intro _; omega); (intro hh; exact absurd (show false = true from hh) (by simp)); exact rfl) | (intros; (try simp only [List.length_map]); omega)))
  | cons c l =>
    have hz := size_list s
    rw [hl] at hz
    have h0 : 0 < s.size := by rw [hz]; simp
    have hne : ¬ (s = e0) := fun e => by rw [e] at h0; exact absurd h0 (by decide)
    have hne' : ¬ (s = (⟨#[]⟩ : ByteArray)) := hne
    have hone : s.extract 0 1 = one c := by
      apply ByteArray.ext
      apply Array.toList_inj.1
      show _ = [c]
      rw [ByteArray.data_extract, Array.toList_extract, hl]; rfl
    dsimp only
    by_cases h12 : s.size ≤ 12
    · have ht := trim_spec s h0 (by omega)
      have hi12 : (s.size : Int) ≤ 12 := by omega
      have hc := conts_spec c
      rw [← hone] at hc
      cases ha : s.data.toList.all alB with
      | true =>
        rw [trim_empty s ha] at ht
        rw [hl] at ha
        rw [ha]
        refine pf_of tt_ok Tryz.func79 (by kernel_rfl) rfl rfl rfl rfl (fun st => ?_)
        (try (apply wO pk; exact rfl)); (repeat' (first | (show All _; constructor) | (show Imp _ _; constructor) | (show ImpX _ _ _ _; constructor) | (apply wC pk; (iterate 2 exact rfl)) | (apply wE pk; (iterate 2 exact rfl)) | (apply wX pk; exact rfl) | (apply wN pk; exact rfl) | (apply wD pk [] []; kernel_rfl; exact rfl; exact rfl) | (apply pwp_condC; simp only [cond_true, cond_false]) | (refine pwp_cond rfl (fun h => ?_) (fun h => ?_) <;> (try simp at h) <;> try (exfalso; omega)) | (refine pwp_ret ?_; refine ⟨_, _, _, rfl, Wk.refl _, StSub.refl _, ?_, rfl⟩; try first | rfl | ((simp [hne, hne', h12, hi12, e0]; done); done)) | (apply callS; (iterate 3 exact rfl); (intro _; (first | apply ht | apply hc) <;> first | assumption | omega); rotate_left; (iterate 2 exact rfl)) | (apply slT pk 0 1; (iterate 3 exact rfl); rotate_left; exact rfl; (intro _; exact bnd_none); (intro _; exact bnd_some rfl rfl); (intro _; omega); (intro _; omega); exact rfl) | (intros; (try simp only [List.length_map]); omega)))
      | false =>
        have htn := trim_not s ha
        rw [hl] at ha
        rw [ha]
        have htn' : ¬ ((⟨(Lib.trimS s.data.toList abc9.data.toList).toArray⟩ : ByteArray) = (⟨#[]⟩ : ByteArray)) := htn
        generalize (⟨(Lib.trimS s.data.toList abc9.data.toList).toArray⟩ : ByteArray) = T at *
        refine pf_of tt_ok Tryz.func79 (by kernel_rfl) rfl rfl rfl rfl (fun st => ?_)
        (try (apply wO pk; exact rfl)); (repeat' (first | (show All _; constructor) | (show Imp _ _; constructor) | (show ImpX _ _ _ _; constructor) | (apply wC pk; (iterate 2 exact rfl)) | (apply wE pk; (iterate 2 exact rfl)) | (apply wX pk; exact rfl) | (apply wN pk; exact rfl) | (apply wD pk [] []; kernel_rfl; exact rfl; exact rfl) | (apply pwp_condC; simp only [cond_true, cond_false]) | (refine pwp_cond rfl (fun h => ?_) (fun h => ?_) <;> (try simp at h) <;> try (exfalso; omega)) | (refine pwp_ret ?_; refine ⟨_, _, _, rfl, Wk.refl _, StSub.refl _, ?_, rfl⟩; try first | rfl | ((simp [hne, hne', h12, hi12, htn, htn']; done); done)) | (apply callS; (iterate 3 exact rfl); (intro _; (first | apply ht | apply hc) <;> first | assumption | omega); rotate_left; (iterate 2 exact rfl)) | (apply slT pk 0 1; (iterate 3 exact rfl); rotate_left; exact rfl; (intro _; exact bnd_none); (intro _; exact bnd_some rfl rfl); (intro _; omega); (intro _; omega); exact rfl) | (intros; (try simp only [List.length_map]); omega)))
    · have hi12 : ¬ (s.size : Int) ≤ 12 := by omega
      have e : decide (s.size ≤ 12) = false := decide_eq_false h12
      have e2 : decide ((s.size : Int) ≤ 12) = false := decide_eq_false (by omega)
      have e3 : decide (s = e0) = false := decide_eq_false hne
      have hT : ∀ p, (gw true (!decide (s = e0)) true && p) = true → True := fun _ _ => trivial
      rw [e, Bool.false_and, Bool.and_false]
      refine pf_of tt_ok Tryz.func79 (by kernel_rfl) rfl rfl rfl rfl (fun st => ?_)
      (try (apply wO pk; exact rfl)); (repeat' (first | (show All _; constructor) | (show Imp _ _; constructor) | (show ImpX _ _ _ _; constructor) | (apply wC pk; (iterate 2 exact rfl)) | (apply wE pk; (iterate 2 exact rfl)) | (apply wX pk; exact rfl) | (apply wN pk; exact rfl) | (apply wD pk [] []; kernel_rfl; exact rfl; exact rfl) | (apply pwp_condC; simp only [cond_true, cond_false]) | (refine pwp_cond rfl (fun h => ?_) (fun h => ?_) <;> (try simp at h) <;> try (exfalso; omega)) | (refine pwp_ret ?_; refine ⟨_, _, _, rfl, Wk.refl _, StSub.refl _, ?_, rfl⟩; try first | rfl | ((simp [hne, hne', h12, hi12, e0]; done); done)) | (apply callS; (iterate 3 exact rfl); (intro _; (first | apply (show PF Tryz.prog 114 [_, _] (PV.val (Value.string (e0))) from by rename_i hh; simp [gw, hne] at hh; omega) | apply (show PF Tryz.prog 115 [_, _] (PV.val (Value.bool (false))) from by rename_i hh; simp [gw, hne] at hh; omega)) <;> first | assumption | omega); rotate_left; (iterate 2 exact rfl)) | (apply slT pk 0 1; (iterate 3 exact rfl); rotate_left; exact rfl; (intro _; exact bnd_none); (intro _; exact bnd_some rfl rfl); (intro _; omega); (intro hh; omega); exact rfl) | (intros; (try simp only [List.length_map]); omega)))
end Go.Proofs.YtkaliolnijkadaaGreatDoor
namespace Go.Proofs.YtkaliolnijkadaaGreatDoor
open Go Go.Abs
attribute [local irreducible] Ev PWp
set_option maxRecDepth 10000
set_option maxHeartbeats 4000000
end Go.Proofs.YtkaliolnijkadaaGreatDoor
