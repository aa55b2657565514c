import Derived.Test.YtmljghkinhaalaaSortFP
import Derived.Sort.LotD5
set_option linter.unusedSimpArgs false
set_option linter.unusedVariables false
namespace Go.Proofs.Ytmljghkinhaalaa.SortP
open Go Go.Abs
attribute [local irreducible] Ev PWp
set_option maxRecDepth 10000
set_option maxHeartbeats 1000000
section
theorem xnLt1 {X : Nat} (h : X < 18446744073709551616) : X ^^^ (X * 2 ^ 13 % 18446744073709551616) < 18446744073709551616 := Nat.xor_lt_two_pow (n := 64) (by omega) (by omega)
theorem xnLt2 {X : Nat} (h : X < 18446744073709551616) : X ^^^ (X / 2 ^ 7) < 18446744073709551616 := Nat.xor_lt_two_pow (n := 64) (by omega) (by omega)
theorem next_spec {st : Store} (rid X : Nat) (hX : X < 18446744073709551616) (hs : st rid = some (.cells 95 [(PV.val (Value.int .u64 ((X : Nat))))])) :
    PC Try.prog 66 [.ref rid 0] st fun p st' => p = (PV.val (Value.int .u64 ((Go.Sort.xorNextN X : Nat)))) ∧ st' = upd st rid (some (.cells 95 [(PV.val (Value.int .u64 ((Go.Sort.xorNextN X : Nat))))])) := by
  have h1 := xnLt1 hX
  have h2 := xnLt2 h1
  refine pc_of tt_ok Try.func66 (by kernel_rfl) rfl rfl rfl rfl ?_
  (try (apply wO pk; exact rfl)); (repeat' (first | exact All.nil | refine All.cons ?_ ?_ | (apply wC pk; exact rfl; exact rfl) | (apply wE pk; exact rfl; exact rfl) | (apply wX pk; exact rfl) | (apply wN pk; exact rfl) | (apply wDx pk; exact rfl; kernel_rfl; exact rfl; exact rfl) | exact Imp.one | exact Imp.same | refine Imp.left ?_ | exact ImpX.one | exact ImpX.same | exact ImpX.mk | refine ImpX.up ?_ | refine ImpX.old ?_ | (apply pwp_condC; simp only [cond_true, cond_false]) | (refine pwp_cond rfl (fun h => ?_) (fun h => ?_) <;> (try simp at h) <;> (first | done | (exfalso; omega) | skip)) | ((try refine pwp_ret ?_); (first | (refine ⟨_, _, _, rfl, Wk.refl _, StSub.refl _, ?_⟩; ((refine ⟨rfl, ?_⟩; show upd (upd (upd st rid _) rid _) rid _ = upd st rid _; rw [upd_upd, upd_upd]; rfl)); done) | (refine ⟨_, _, ?zs, rfl, Wk.refl _, ?zh, ?zr⟩; (case zh => (refine stsub_over ?_ (by assumption); (repeat refine stsub_over ?_ (by assumption)); exact StSub.refl _)); (case zr => ((refine ⟨rfl, ?_⟩; show upd (upd (upd st rid _) rid _) rid _ = upd st rid _; rw [upd_upd, upd_upd]; rfl)))) | refine ⟨_, _, _, rfl, Wk.refl _, StSub.refl _, ?_⟩)) | (apply ncA; exact rfl; exact rfl; exact rfl; rotate_left; exact rfl; exact rfl) | (apply ldR pk; exact rfl; exact rfl; rotate_left; exact rfl; (first | exact upd_same _ _ _ | assumption | (focus ((repeat (first | exact upd_same _ _ _ | assumption | refine (upd_ne (by assumption)).trans ?_)); done))); exact rfl; exact rfl) | (apply stR pk; exact rfl; exact rfl; (first | exact upd_same _ _ _ | assumption | (focus ((repeat (first | exact upd_same _ _ _ | assumption | refine (upd_ne (by assumption)).trans ?_)); done))); exact rfl; exact rfl) | (apply ixA pk; exact rfl; exact rfl; exact rfl; exact rfl; exact rfl; rotate_left; exact rfl; (intro hw; (first | exact rfl | (simp [gw] at hw; first | fail | (refine (show _ = ((0 : Nat) : Int) from ?_); omega)) | exact rfl)); (intro hw; (first | omega | (simp [gw] at hw; omega) | (simp only [Array.size_setIfInBounds]; omega))); exact rfl; exact Nat.zero_add _) | (apply ldA pk hc.el; exact rfl; exact rfl; rotate_left; exact rfl; (first | exact upd_same _ _ _ | assumption | (focus ((repeat (first | exact upd_same _ _ _ | assumption | refine (upd_ne (by assumption)).trans ?_)); done))); (intro hw; (first | omega | (simp [gw] at hw; omega) | (simp only [Array.size_setIfInBounds]; omega))); exact rfl) | (apply stA pk hc.el; exact rfl; exact rfl; exact rfl; (first | exact upd_same _ _ _ | assumption | (focus ((repeat (first | exact upd_same _ _ _ | assumption | refine (upd_ne (by assumption)).trans ?_)); done))); (first | omega | (simp only [Array.size_setIfInBounds]; omega)); exact rfl) | (apply uXor; exact rfl; exact rfl; exact rfl; exact rfl; (first | omega | decide); (first | omega | decide); exact rfl) | (apply uAnd; exact rfl; exact rfl; exact rfl; exact rfl; (first | omega | decide); (first | omega | decide); exact rfl) | (apply uShl 7; exact rfl; exact rfl; exact rfl; exact rfl; exact rfl; (first | omega | decide); exact rfl) | (apply uShl 8; exact rfl; exact rfl; exact rfl; exact rfl; exact rfl; (first | omega | decide); exact rfl) | (apply uShl 13; exact rfl; exact rfl; exact rfl; exact rfl; exact rfl; (first | omega | decide); exact rfl) | (apply uShl 16; exact rfl; exact rfl; exact rfl; exact rfl; exact rfl; (first | omega | decide); exact rfl) | (apply uShl 17; exact rfl; exact rfl; exact rfl; exact rfl; exact rfl; (first | omega | decide); exact rfl) | (apply uShl 32; exact rfl; exact rfl; exact rfl; exact rfl; exact rfl; (first | omega | decide); exact rfl) | (apply uShl; exact rfl; exact rfl; exact rfl; exact rfl; exact rfl; (first | omega | decide); exact rfl) | (apply uShr 7; exact rfl; exact rfl; exact rfl; exact rfl; exact rfl; (first | omega | decide); exact rfl) | (apply uShr 8; exact rfl; exact rfl; exact rfl; exact rfl; exact rfl; (first | omega | decide); exact rfl) | (apply uShr 13; exact rfl; exact rfl; exact rfl; exact rfl; exact rfl; (first | omega | decide); exact rfl) | (apply uShr 16; exact rfl; exact rfl; exact rfl; exact rfl; exact rfl; (first | omega | decide); exact rfl) | (apply uShr 17; exact rfl; exact rfl; exact rfl; exact rfl; exact rfl; (first | omega | decide); exact rfl) | (apply uShr 32; exact rfl; exact rfl; exact rfl; exact rfl; exact rfl; (first | omega | decide); exact rfl) | (apply uShr; exact rfl; exact rfl; exact rfl; exact rfl; exact rfl; (first | omega | decide); exact rfl) | (apply uSub (b := 1); exact rfl; exact rfl; exact rfl; exact rfl; exact rfl; (first | omega | decide); (first | omega | decide); exact rfl) | (apply cvA pk.htt; exact rfl; exact rfl; exact rfl; exact rfl; exact rfl; (refine ⟨?_, ?_⟩ <;> (first | omega | decide)); exact rfl) | (intros; omega)))
theorem bl_div (k : Nat) {x : Nat} (h : 2 ^ k ≤ x) : Go.Sort.bitsLen x = Go.Sort.bitsLen (x / 2 ^ k) + k := by
  have hp : 0 < 2 ^ k := Nat.two_pow_pos k
  apply Nat.le_antisymm
  · rw [Go.Sort.bitsLen_le_iff, Nat.pow_add]
    have := Go.Sort.lt_two_pow_bitsLen (x / 2 ^ k)
    rwa [Nat.div_lt_iff_lt_mul hp] at this
  · have h1 := Go.Sort.lt_two_pow_bitsLen x
    have h2 : k < Go.Sort.bitsLen x := (Nat.pow_lt_pow_iff_right (by decide)).1 (Nat.lt_of_le_of_lt h h1)
    have h3 : Go.Sort.bitsLen (x / 2 ^ k) ≤ Go.Sort.bitsLen x - k := by
      rw [Go.Sort.bitsLen_le_iff, Nat.div_lt_iff_lt_mul hp, ← Nat.pow_add, Nat.sub_add_cancel (by omega)]; exact h1
    omega
def tab8 : List UInt8 := (List.range 256).map fun j => UInt8.ofNat (Go.Sort.bitsLen j)
theorem tab_ok {B : ByteArray} (h : B.data.toList = tab8) {j : Nat} (hj : j < 256) : B[j]? = some (UInt8.ofNat (Go.Sort.bitsLen j)) := by
  have hl : B.data.toList.length = 256 := by rw [h]; simp [tab8]
  have hs : j < B.size := by show j < B.data.size; rw [← Array.length_toList, hl]; exact hj
  have e : B.data.toList[j]? = some (UInt8.ofNat (Go.Sort.bitsLen j)) := by rw [h]; simp [tab8, hj]
  rw [getElem?_pos B j hs]
  rw [List.getElem?_eq_getElem (by rw [hl]; exact hj)] at e
  injection e with e
  rw [← e]
  rfl
section
variable {P : Program} {tt : TT} {l : List Oper} {d : Md} {r : List Oper} {s : St} {K : St → Prop} {t : Nat} {ty : TypeId} {pos : String} {after : Array Edge}
theorem sxT (pk : TTOK P tt) {T : TypeId} {x y : Operand} {b : ByteArray} {kk : IntKind} {i : Int} {j : Nat} (hx : opd s x = some (.val (.string b))) (hy : opd s y = some (.val (.int kk i))) (hT : tiK tt T = some .str) (hf : flagsB s [x, y] = true) (hd : Nat.blt t s.n = true) (hi : i = j) (hB : b.data.toList = tab8) (hj : j < 256)
    (ht : tagE d l r = true) (k : ∀ m : Nat, m = Go.Sort.bitsLen j → m ≤ 8 → Ev P l d r (s.pv t (.val (.int .u8 (m : Int)))) K) : Ev P l d (⟨some t, .index T x y, ty, pos, after, none⟩ :: r) s K := by
  have h8 : Go.Sort.bitsLen j ≤ 8 := (Go.Sort.bitsLen_le_iff _ _).2 hj
  refine sxA pk j _ hx hy hT hf hd hi (tab_ok hB hj) ht ?_
  have e : (UInt8.ofNat (Go.Sort.bitsLen j)).toNat = Go.Sort.bitsLen j := by simp; omega
  rw [e]
  exact k _ rfl h8
end
theorem len64_spec (x : Nat) (hx : x < 18446744073709551616) : PF Try.prog 62 [(PV.val (Value.int .u64 ((x : Nat))))] (PV.val (Value.int .i64 ((Go.Sort.bitsLen x : Nat)))) := by
  have f32 := fun h => bl_div 32 (x := x) h
  have f16 := fun (y : Nat) h => bl_div 16 (x := y) h
  have f8 := fun (y : Nat) h => bl_div 8 (x := y) h
  have c1 := f16 x
  have c2 := f16 (x / 2 ^ 32)
  have c3 := f8 x
  have c4 := f8 (x / 2 ^ 32)
  have c5 := f8 (x / 2 ^ 16)
  have c6 := f8 (x / 2 ^ 32 / 2 ^ 16)
  refine pf_of tt_ok Try.func62 (by kernel_rfl) rfl rfl rfl rfl (fun st => ?_)
  (try (apply wO pk; exact rfl)); (repeat' (first | exact All.nil | refine All.cons ?_ ?_ | (apply wC pk; exact rfl; exact rfl) | (apply wE pk; exact rfl; exact rfl) | (apply wX pk; exact rfl) | (apply wN pk; exact rfl) | (apply wD pk [] []; kernel_rfl; exact rfl; exact rfl) | exact Imp.one | exact Imp.same | refine Imp.left ?_ | exact ImpX.one | exact ImpX.same | exact ImpX.mk | refine ImpX.up ?_ | refine ImpX.old ?_ | (apply pwp_condC; simp only [cond_true, cond_false]) | (refine pwp_cond rfl (fun h => ?_) (fun h => ?_) <;> (try simp at h) <;> (first | done | (exfalso; omega) | skip)) | (refine pwp_ret ?_; first | (refine ⟨_, _, _, rfl, Wk.refl _, StSub.refl _, ?_, rfl⟩; (first | rfl | ((subst_vars; congr 2; omega); done))) | (refine ⟨_, _, _, rfl, Wk.refl _, stsub_drop (by assumption), ?_, rfl⟩; (first | rfl | ((subst_vars; congr 2; omega); done))) | (refine ⟨_, _, _, rfl, Wk.soft _, StSub.refl _, ?_, rfl⟩; (first | rfl | ((subst_vars; congr 2; omega); done))) | (refine ⟨_, _, _, rfl, Wk.soft _, stsub_drop (by assumption), ?_, rfl⟩; (first | rfl | ((subst_vars; congr 2; omega); done))) | (refine ⟨_, _, _, rfl, Wk.refl _, StSub.refl _, ?_, rfl⟩) | (refine ⟨_, _, _, rfl, Wk.soft _, stsub_drop (by assumption), ?_, rfl⟩)) | (apply uXor; exact rfl; exact rfl; exact rfl; exact rfl; (first | omega | decide); (first | omega | decide); exact rfl) | (apply uAnd; exact rfl; exact rfl; exact rfl; exact rfl; (first | omega | decide); (first | omega | decide); exact rfl) | (apply uShl 7; exact rfl; exact rfl; exact rfl; exact rfl; exact rfl; (first | omega | decide); exact rfl) | (apply uShl 8; exact rfl; exact rfl; exact rfl; exact rfl; exact rfl; (first | omega | decide); exact rfl) | (apply uShl 13; exact rfl; exact rfl; exact rfl; exact rfl; exact rfl; (first | omega | decide); exact rfl) | (apply uShl 16; exact rfl; exact rfl; exact rfl; exact rfl; exact rfl; (first | omega | decide); exact rfl) | (apply uShl 17; exact rfl; exact rfl; exact rfl; exact rfl; exact rfl; (first | omega | decide); exact rfl) | (apply uShl 32; exact rfl; exact rfl; exact rfl; exact rfl; exact rfl; (first | omega | decide); exact rfl) | (apply uShl; exact rfl; exact rfl; exact rfl; exact rfl; exact rfl; (first | omega | decide); exact rfl) | (apply uShr 7; exact rfl; exact rfl; exact rfl; exact rfl; exact rfl; (first | omega | decide); exact rfl) | (apply uShr 8; exact rfl; exact rfl; exact rfl; exact rfl; exact rfl; (first | omega | decide); exact rfl) | (apply uShr 13; exact rfl; exact rfl; exact rfl; exact rfl; exact rfl; (first | omega | decide); exact rfl) | (apply uShr 16; exact rfl; exact rfl; exact rfl; exact rfl; exact rfl; (first | omega | decide); exact rfl) | (apply uShr 17; exact rfl; exact rfl; exact rfl; exact rfl; exact rfl; (first | omega | decide); exact rfl) | (apply uShr 32; exact rfl; exact rfl; exact rfl; exact rfl; exact rfl; (first | omega | decide); exact rfl) | (apply uShr; exact rfl; exact rfl; exact rfl; exact rfl; exact rfl; (first | omega | decide); exact rfl) | (apply uSub (b := 1); exact rfl; exact rfl; exact rfl; exact rfl; exact rfl; (first | omega | decide); (first | omega | decide); exact rfl) | (apply cvA pk.htt; exact rfl; exact rfl; exact rfl; exact rfl; exact rfl; (refine ⟨?_, ?_⟩ <;> (first | omega | decide)); exact rfl) | (apply sxT pk.htt; exact rfl; exact rfl; exact rfl; exact rfl; exact rfl; exact rfl; kernel_rfl; omega; exact rfl; intro m hm hm8) | (intros; omega)))
end
end Go.Proofs.Ytmljghkinhaalaa.SortP
