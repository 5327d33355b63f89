/- Texts of this claim laid together: Gf71, Gf47, Gf25, Gf27, Gf56, Gf30, Gf29, Gf44, Gf63, Gf37. -/
import Derived.Test.YtbapkiclgkddcaaGreatDoorShortC
import Derived.Test.YtbapkiclgkddcaaGreatDoorG0
-- Printed by gp.py (a program of this session's own, over the kit's printer) out of the translation; Lean checks it.
namespace Go.Proofs.YtbapkiclgkddcaaGreatDoor.G
open Go.Proofs.YtbapkiclgkddcaaGreatDoor.Given Go.Proofs.YtbapkiclgkddcaaGreatDoor.Short
open Go.RowKit Go.Proofs.YtbapkiclgkddcaaGreatDoorW.PrintWords Go.Proofs.YtbapkiclgkddcaaGreatDoorW.PrintLast Go.Proofs.YtbapkiclgkddcaaGreatDoorW.PrintMore
attribute [local go_sem] max2_int min2_int max_two min_two max_three min_three max_four min_four   -- for this text's walks alone
set_option linter.unusedVariables false
set_option linter.unusedSimpArgs false

/-! ### stringslite_HasPrefix: function 71 -/
def stringslite_HasPrefix.f (a0 : ByteArray) (a1 : ByteArray) : Option (Bool) := if (a0.size : Int) ≥ (a1.size : Int) then (if 0 ≤ (a1.size : Int) then (if (a1.size : Int) ≤ (a0.size : Int) then (some ((a0.extract 0 ((a1.size : Int) : Int).toNat).toList == a1.toList)) else (none)) else (none)) else (some false)
set_option maxHeartbeats 8000000 in
set_option maxRecDepth 100000 in
theorem stringslite_HasPrefix.calls (a0 : ByteArray) (a1 : ByteArray) (r : Bool) (w : World) (h : stringslite_HasPrefix.f a0 a1 = some r) :
  Calls Tryz.prog 71 #[.string a0, .string a1] w fun e w' => e = .returned (.bool r) ∧ Drawn0 w w' := by
 have H : (if (a0.size : Int) ≥ (a1.size : Int) then (if 0 ≤ (a1.size : Int) then (if (a1.size : Int) ≤ (a0.size : Int) then (some ((a0.extract 0 ((a1.size : Int) : Int).toNat).toList == a1.toList)) else (none)) else (none)) else (some false)) = some r := h; clear h
 by_cases c3 : (a0.size : Int) ≥ (a1.size : Int)
 ·rw [if_pos c3] at H; have c3b0 : decide ((a1.size : Int) ≤ (a0.size : Int)) = true := decide_eq_true c3; have c3b1 : decide (a1.size ≤ a0.size) = true := decide_eq_true (Int.ofNat_le.mp c3); clear c3
  by_cases c4 : 0 ≤ (a1.size : Int)
  ·rw [if_pos c4] at H; have c4b0 := eq_true c4; have c4b1 : decide (0 ≤ (a1.size : Int)) = true := decide_eq_true c4; clear c4
   by_cases c5 : (a1.size : Int) ≤ (a0.size : Int)
   ·rw [if_pos c5] at H; have c5b0 := eq_true c5; have c5b1 : decide ((a1.size : Int) ≤ (a0.size : Int)) = true := decide_eq_true c5; clear c5; obtain rfl := Option.some.inj H; (go_enter Tryz.func71, Tryz.ntmps71); (go_wp2); (go_ret); exact ⟨by first | rfl | (simp; done) | (simp [*]; done), by repeat (first | exact Drawn0.refl _ | apply Drawn0.step)⟩
   ·rw [if_neg c5] at H; exact absurd H (by simp)
  ·rw [if_neg c4] at H; exact absurd H (by simp)
 ·rw [if_neg c3] at H; have c3b0 : decide ((a1.size : Int) ≤ (a0.size : Int)) = false := decide_eq_false c3; have c3b1 : decide (a1.size ≤ a0.size) = false := decide_eq_false (fun h => c3 (Int.ofNat_le.mpr h)); clear c3; obtain rfl := Option.some.inj H; (go_enter Tryz.func71, Tryz.ntmps71); (go_wp2); (go_ret); exact ⟨by first | rfl | (simp; done) | (simp [*]; done), by repeat (first | exact Drawn0.refl _ | apply Drawn0.step)⟩

end Go.Proofs.YtbapkiclgkddcaaGreatDoor.G

-- Printed by gp.py (a program of this session's own, over the kit's printer) out of the translation; Lean checks it.
namespace Go.Proofs.YtbapkiclgkddcaaGreatDoor.G
open Go.Proofs.YtbapkiclgkddcaaGreatDoor.Given Go.Proofs.YtbapkiclgkddcaaGreatDoor.Short
open Go.RowKit Go.Proofs.YtbapkiclgkddcaaGreatDoorW.PrintWords Go.Proofs.YtbapkiclgkddcaaGreatDoorW.PrintLast Go.Proofs.YtbapkiclgkddcaaGreatDoorW.PrintMore
attribute [local go_sem] max2_int min2_int max_two min_two max_three min_three max_four min_four   -- for this text's walks alone
set_option linter.unusedVariables false
set_option linter.unusedSimpArgs false

/-! ### stringslite_CutPrefix: function 47 -/
def stringslite_CutPrefix.f (a0 : ByteArray) (a1 : ByteArray) : Option (ByteArray × Bool) := (stringslite_HasPrefix.f a0 a1).bind fun t274 => (if t274 = true then (if 0 ≤ (a1.size : Int) then (if (a1.size : Int) ≤ (a0.size : Int) then (some (a0.extract ((a1.size : Int) : Int).toNat a0.size, true)) else (none)) else (none)) else (some (a0, false)))
set_option maxHeartbeats 8000000 in
set_option maxRecDepth 100000 in
theorem stringslite_CutPrefix.calls (a0 : ByteArray) (a1 : ByteArray) (r1 : ByteArray) (r2 : Bool) (w : World) (h : stringslite_CutPrefix.f a0 a1 = some (r1, r2)) :
  Calls Tryz.prog 47 #[.string a0, .string a1] w fun e w' => e = .returned (.tuple #[.string r1, .bool r2]) ∧ Drawn0 w w' := by
 have H : ((stringslite_HasPrefix.f a0 a1).bind fun t274 => (if t274 = true then (if 0 ≤ (a1.size : Int) then (if (a1.size : Int) ≤ (a0.size : Int) then (some (a0.extract ((a1.size : Int) : Int).toNat a0.size, true)) else (none)) else (none)) else (some (a0, false)))) = some (r1, r2) := h; clear h; replace H := Option.bind_eq_some_iff.mp H; obtain ⟨t274, A30, H⟩ := H; (try dsimp only at H); have A3 := Aside0.mk A30; clear A30
 by_cases c4 : t274 = true
 ·subst c4; (have H1 : (if 0 ≤ (a1.size : Int) then (if (a1.size : Int) ≤ (a0.size : Int) then (some (a0.extract ((a1.size : Int) : Int).toNat a0.size, true)) else (none)) else (none)) = some (r1, r2) := by rw [if_pos rfl] at H; exact H); clear H; have H := H1; clear H1
  by_cases c5 : 0 ≤ (a1.size : Int)
  ·rw [if_pos c5] at H; have c5b0 := eq_true c5; have c5b1 : decide (0 ≤ (a1.size : Int)) = true := decide_eq_true c5; clear c5
   by_cases c6 : (a1.size : Int) ≤ (a0.size : Int)
   ·rw [if_pos c6] at H; have c6b0 := eq_true c6; have c6b1 : decide ((a1.size : Int) ≤ (a0.size : Int)) = true := decide_eq_true c6; clear c6; simp only [Option.some.injEq, Prod.mk.injEq] at H; obtain ⟨rfl, rfl⟩ := H; (go_enter Tryz.func47, Tryz.ntmps47); go_wp2_with (first | ((with_reducible refine gate_callee (f := 71) rfl ?_); refine gl (some 8) Tryz.func71 #[.string a0, .string a1] ?_; (with_reducible refine (stringslite_HasPrefix.calls a0 a1 true _ A3.out).mono ?_); rintro e w' ⟨rfl, ⟨nd, rfl⟩⟩; refine ⟨_, rfl, ?_⟩))
    go_ret2
    exact ⟨by first | rfl | (simp; done) | (simp [*]; done), by repeat (first | exact Drawn0.refl _ | apply Drawn0.step)⟩
   ·rw [if_neg c6] at H; exact absurd H (by simp)
  ·rw [if_neg c5] at H; exact absurd H (by simp)
 ·replace c4 := Bool.eq_false_iff.mpr c4; subst c4; (have H1 : (some (a0, false)) = some (r1, r2) := by rw [if_neg (show ¬ (false = true) by decide)] at H; exact H); clear H; have H := H1; clear H1; simp only [Option.some.injEq, Prod.mk.injEq] at H; obtain ⟨rfl, rfl⟩ := H; (go_enter Tryz.func47, Tryz.ntmps47); go_wp2_with (first | ((with_reducible refine gate_callee (f := 71) rfl ?_); refine gl (some 8) Tryz.func71 #[.string a0, .string a1] ?_; (with_reducible refine (stringslite_HasPrefix.calls a0 a1 false _ A3.out).mono ?_); rintro e w' ⟨rfl, ⟨nd, rfl⟩⟩; refine ⟨_, rfl, ?_⟩))
  go_ret2
  exact ⟨by first | rfl | (simp; done) | (simp [*]; done), by repeat (first | exact Drawn0.refl _ | apply Drawn0.step)⟩

end Go.Proofs.YtbapkiclgkddcaaGreatDoor.G

-- Printed by gp.py (a program of this session's own, over the kit's printer) out of the translation; Lean checks it.
namespace Go.Proofs.YtbapkiclgkddcaaGreatDoor.G
open Go.Proofs.YtbapkiclgkddcaaGreatDoor.Given Go.Proofs.YtbapkiclgkddcaaGreatDoor.Short
open Go.RowKit Go.Proofs.YtbapkiclgkddcaaGreatDoorW.PrintWords Go.Proofs.YtbapkiclgkddcaaGreatDoorW.PrintLast Go.Proofs.YtbapkiclgkddcaaGreatDoorW.PrintMore
attribute [local go_sem] max2_int min2_int max_two min_two max_three min_three max_four min_four   -- for this text's walks alone
set_option linter.unusedVariables false
set_option linter.unusedSimpArgs false

/-! ### strings_CutPrefix: function 25 -/
def strings_CutPrefix.f (a0 : ByteArray) (a1 : ByteArray) : Option (ByteArray × Bool) := (stringslite_CutPrefix.f a0 a1).bind fun bt275 => (some (bt275.1, bt275.2))
set_option maxHeartbeats 8000000 in
set_option maxRecDepth 100000 in
theorem strings_CutPrefix.calls (a0 : ByteArray) (a1 : ByteArray) (r1 : ByteArray) (r2 : Bool) (w : World) (h : strings_CutPrefix.f a0 a1 = some (r1, r2)) :
  Calls Tryz.prog 25 #[.string a0, .string a1] w fun e w' => e = .returned (.tuple #[.string r1, .bool r2]) ∧ Drawn0 w w' := by
 have H : ((stringslite_CutPrefix.f a0 a1).bind fun bt275 => (some (bt275.1, bt275.2))) = some (r1, r2) := h; clear h; replace H := Option.bind_eq_some_iff.mp H; obtain ⟨⟨t275, t276⟩, A30, H⟩ := H; (try dsimp only at H); have A3 := Aside0.mk A30; clear A30; simp only [Option.some.injEq, Prod.mk.injEq] at H; obtain ⟨rfl, rfl⟩ := H; (go_enter Tryz.func25, Tryz.ntmps25); go_wp2_with (first | ((with_reducible refine gate_callee (f := 47) rfl ?_); refine gl (some 8) Tryz.func47 #[.string a0, .string a1] ?_; (with_reducible refine (stringslite_CutPrefix.calls a0 a1 t275 t276 _ A3.out).mono ?_); rintro e w' ⟨rfl, ⟨nd, rfl⟩⟩; refine ⟨_, rfl, ?_⟩))
 go_ret2
 exact ⟨by first | rfl | (simp; done) | (simp [*]; done), by repeat (first | exact Drawn0.refl _ | apply Drawn0.step)⟩

end Go.Proofs.YtbapkiclgkddcaaGreatDoor.G

-- Printed by gp.py (a program of this session's own, over the kit's printer) out of the translation; Lean checks it.
namespace Go.Proofs.YtbapkiclgkddcaaGreatDoor.G
open Go.Proofs.YtbapkiclgkddcaaGreatDoor.Given Go.Proofs.YtbapkiclgkddcaaGreatDoor.Short
open Go.RowKit Go.Proofs.YtbapkiclgkddcaaGreatDoorW.PrintWords Go.Proofs.YtbapkiclgkddcaaGreatDoorW.PrintLast Go.Proofs.YtbapkiclgkddcaaGreatDoorW.PrintMore
attribute [local go_sem] max2_int min2_int max_two min_two max_three min_three max_four min_four   -- for this text's walks alone
set_option linter.unusedVariables false
set_option linter.unusedSimpArgs false

/-! ### ratio_digits: function 27 -/
def ratio_digits.f (a0 : ByteArray) (a1 : Int) : Option (Bool) := if (a0.size : Int) ≥ 1 then (if (a0.size : Int) ≤ a1 then ((strings_Trim.f a0 (⟨#[48, 49, 50, 51, 52, 53, 54, 55, 56, 57]⟩ : ByteArray)).bind fun t278 => (some (t278.toList == ([] : List UInt8)))) else (some false)) else (some false)
set_option maxHeartbeats 8000000 in
set_option maxRecDepth 100000 in
theorem ratio_digits.calls (a0 : ByteArray) (a1 : Int) (r : Bool) (w : World) (h : ratio_digits.f a0 a1 = some r) :
  Calls Tryz.prog 27 #[.string a0, .int .i64 a1] w fun e w' => e = .returned (.bool r) ∧ Below w.heap.size w w' := by
 have HB := Aside0.mk (Below.refl w.heap.size w); have H : (if (a0.size : Int) ≥ 1 then (if (a0.size : Int) ≤ a1 then ((strings_Trim.f a0 (⟨#[48, 49, 50, 51, 52, 53, 54, 55, 56, 57]⟩ : ByteArray)).bind fun t278 => (some (t278.toList == ([] : List UInt8)))) else (some false)) else (some false)) = some r := h; clear h
 by_cases c3 : (a0.size : Int) ≥ 1
 ·rw [if_pos c3] at H; have c3b0 : decide (1 ≤ (a0.size : Int)) = true := decide_eq_true c3; have c3b1 : decide (1 ≤ a0.size) = true := decide_eq_true (by omega); clear c3
  by_cases c4 : (a0.size : Int) ≤ a1
  ·rw [if_pos c4] at H; have c4b0 : decide ((a0.size : Int) ≤ a1) = true := decide_eq_true c4; clear c4; replace H := Option.bind_eq_some_iff.mp H; obtain ⟨t278, A50, H⟩ := H; (try dsimp only at H); have A5 := Aside0.mk A50; clear A50; obtain rfl := Option.some.inj H; (go_enter Tryz.func27, Tryz.ntmps27); (go_wp2_with (first | (go_at_call 52; (with_reducible refine (strings_Trim.calls a0 (⟨#[48, 49, 50, 51, 52, 53, 54, 55, 56, 57]⟩ : ByteArray) t278 _ A5.out).mono ?_); rintro e w6 ⟨rfl, hb⟩; replace HB := wb HB hb; (try clear hb); (try clear hb2); (try clear hk); (try clear hi)))); (go_ret); exact ⟨by first | rfl | (simp [errW_none, errW_some] <;> rfl) | (simp [*, errW_none, errW_some] <;> rfl), bw HB⟩
  ·rw [if_neg c4] at H; have c4b0 : decide ((a0.size : Int) ≤ a1) = false := decide_eq_false c4; clear c4; obtain rfl := Option.some.inj H; (go_enter Tryz.func27, Tryz.ntmps27); (go_wp2); (go_ret); exact ⟨by first | rfl | (simp [errW_none, errW_some] <;> rfl) | (simp [*, errW_none, errW_some] <;> rfl), bw HB⟩
 ·rw [if_neg c3] at H; have c3b0 : decide (1 ≤ (a0.size : Int)) = false := decide_eq_false c3; have c3b1 : decide (1 ≤ a0.size) = false := decide_eq_false (by omega); clear c3; obtain rfl := Option.some.inj H; (go_enter Tryz.func27, Tryz.ntmps27); (go_wp2); (go_ret); exact ⟨by first | rfl | (simp [errW_none, errW_some] <;> rfl) | (simp [*, errW_none, errW_some] <;> rfl), bw HB⟩

end Go.Proofs.YtbapkiclgkddcaaGreatDoor.G

-- Printed by gp.py (a program of this session's own, over the kit's printer) out of the translation; Lean checks it.
namespace Go.Proofs.YtbapkiclgkddcaaGreatDoor.G
open Go.Proofs.YtbapkiclgkddcaaGreatDoor.Given Go.Proofs.YtbapkiclgkddcaaGreatDoor.Short
open Go.RowKit Go.Proofs.YtbapkiclgkddcaaGreatDoorW.PrintWords Go.Proofs.YtbapkiclgkddcaaGreatDoorW.PrintLast Go.Proofs.YtbapkiclgkddcaaGreatDoorW.PrintMore
attribute [local go_sem] max2_int min2_int max_two min_two max_three min_three max_four min_four   -- for this text's walks alone
set_option linter.unusedVariables false
set_option linter.unusedSimpArgs false

/-! ### ratio_wide_compare: function 56 -/
mutual
def ratio_wide_compare.j0 : Nat → Bool → Bool → Int → Int → Bool → Int → Int → Option (Int)
 | 0, _, _, _, _, _, _, _ => none
 | k + 1, x5, x295000, x295001, x295002, x296000, x296001, x296002 => if x5 = true then (ratio_wide_compare.j1 k x5 x295000 x295001 x295002 x296000 x296001 x296002) else (if x295001 = x296001 then (ratio_wide_compare.j1 k (decide (x295002 < x296002)) x295000 x295001 x295002 x296000 x296001 x296002) else (ratio_wide_compare.j1 k false x295000 x295001 x295002 x296000 x296001 x296002))
def ratio_wide_compare.j1 : Nat → Bool → Bool → Int → Int → Bool → Int → Int → Option (Int)
 | 0, _, _, _, _, _, _, _ => none
 | k + 1, x5, x295000, x295001, x295002, x296000, x296001, x296002 => if x5 = true then (some (-1)) else (if x295001 = x296001 then (if x295002 = x296002 then (some 0) else (some 1)) else (some 1))
end
def ratio_wide_compare.f (k : Nat) (a0_0 : Bool) (a0_1 : Int) (a0_2 : Int) (a1_0 : Bool) (a1_1 : Int) (a1_2 : Int) : Option (Int) := if a0_1 = a1_1 then (ratio_wide_compare.j0 k false a0_0 a0_1 a0_2 a1_0 a1_1 a1_2) else (ratio_wide_compare.j0 k (decide (a0_1 < a1_1)) a0_0 a0_1 a0_2 a1_0 a1_1 a1_2)
theorem ratio_wide_compare.mono_l : ∀ k, (∀ y0 y1 y2 y3 y4 y5 y6, LeO (ratio_wide_compare.j0 k y0 y1 y2 y3 y4 y5 y6) (ratio_wide_compare.j0 (k + 1) y0 y1 y2 y3 y4 y5 y6)) ∧ (∀ y0 y1 y2 y3 y4 y5 y6, LeO (ratio_wide_compare.j1 k y0 y1 y2 y3 y4 y5 y6) (ratio_wide_compare.j1 (k + 1) y0 y1 y2 y3 y4 y5 y6))
 | 0 => ⟨fun _ _ _ _ _ _ _ r h => by simp [ratio_wide_compare.j0] at h, fun _ _ _ _ _ _ _ r h => by simp [ratio_wide_compare.j1] at h⟩
 | k + 1 => by
  obtain ⟨ih0, ih1⟩ := ratio_wide_compare.mono_l k; refine ⟨?_, ?_⟩
  ·intro y0 y1 y2 y3 y4 y5 y6; unfold ratio_wide_compare.j0
   repeat' first
   | (with_reducible exact ih0 _ _ _ _ _ _ _)
   | (with_reducible exact ih1 _ _ _ _ _ _ _)
   | (with_reducible exact LeO.refl _)
   | (with_reducible exact LeO.none _)
   | (with_reducible refine LeO.ite ?_ ?_)
   | (with_reducible refine LeO.bind ?_ (fun _ => ?_))
   | exact ih0 _ _ _ _ _ _ _
   | exact ih1 _ _ _ _ _ _ _
   | exact LeO.none _
   | refine LeO.ite ?_ ?_
   | refine LeO.bind ?_ (fun _ => ?_)
  ·intro y0 y1 y2 y3 y4 y5 y6; unfold ratio_wide_compare.j1
   repeat' first
   | (with_reducible exact ih0 _ _ _ _ _ _ _)
   | (with_reducible exact ih1 _ _ _ _ _ _ _)
   | (with_reducible exact LeO.refl _)
   | (with_reducible exact LeO.none _)
   | (with_reducible refine LeO.ite ?_ ?_)
   | (with_reducible refine LeO.bind ?_ (fun _ => ?_))
   | exact ih0 _ _ _ _ _ _ _
   | exact ih1 _ _ _ _ _ _ _
   | exact LeO.none _
   | refine LeO.ite ?_ ?_
   | refine LeO.bind ?_ (fun _ => ?_)
theorem ratio_wide_compare.mono : ∀ a0 a1 a2 a3 a4 a5 k, LeO (ratio_wide_compare.f k a0 a1 a2 a3 a4 a5) (ratio_wide_compare.f (k + 1) a0 a1 a2 a3 a4 a5) := by
 intro a0 a1 a2 a3 a4 a5 k; obtain ⟨ih0, ih1⟩ := ratio_wide_compare.mono_l k; unfold ratio_wide_compare.f
 repeat' first
   | (with_reducible exact ih0 _ _ _ _ _ _ _)
   | (with_reducible exact ih1 _ _ _ _ _ _ _)
   | (with_reducible exact LeO.refl _)
   | (with_reducible exact LeO.none _)
   | (with_reducible refine LeO.ite ?_ ?_)
   | (with_reducible refine LeO.bind ?_ (fun _ => ?_))
   | exact ih0 _ _ _ _ _ _ _
   | exact ih1 _ _ _ _ _ _ _
   | exact LeO.none _
   | refine LeO.ite ?_ ?_
   | refine LeO.bind ?_ (fun _ => ?_)
set_option maxHeartbeats 8000000 in
set_option maxRecDepth 100000 in
theorem ratio_wide_compare.calls (k : Nat) (a0_0 : Bool) (a0_1 : Int) (a0_2 : Int) (a1_0 : Bool) (a1_1 : Int) (a1_2 : Int) (r : Int) (w : World) (h : ratio_wide_compare.f k a0_0 a0_1 a0_2 a1_0 a1_1 a1_2 = some r) :
  Calls Tryz.prog 56 #[.agg #[.bool a0_0, .int .u64 a0_1, .int .u64 a0_2], .agg #[.bool a1_0, .int .u64 a1_1, .int .u64 a1_2]] w fun e w' => e = .returned (.int .i64 r) ∧ Below w.heap.size w w' := by
 have hu58 := Tryz.underlying58; have HB := Aside0.mk (Below.refl w.heap.size w); have H : (if a0_1 = a1_1 then (ratio_wide_compare.j0 k false a0_0 a0_1 a0_2 a1_0 a1_1 a1_2) else (ratio_wide_compare.j0 k (decide (a0_1 < a1_1)) a0_0 a0_1 a0_2 a1_0 a1_1 a1_2)) = some r := h; clear h; have HC3 := Aside0.mk H; clear H; go_enter Tryz.func56, Tryz.ntmps56
 go_upto_region 1 with (first | ((with_reducible refine gate_dst (N := 2) rfl ?_); refine bx (N := 2) (cs := #[.bool a0_0, .int .u64 a0_1, .int .u64 a0_2]) (t := 58) ?_; intro gb294 hg w4 hbox hb; have BK294 := Aside0.mk (hbox); have GW294 := gs HB hg; have GE294 := gs HB hg; replace HB := wb HB hb; clear hb hbox hg) | ((with_reducible refine gate_dst (N := 3) rfl ?_); refine bx (N := 3) (cs := #[.bool a1_0, .int .u64 a1_1, .int .u64 a1_2]) (t := 58) ?_; intro gb295 hg w5 hbox hb; have BK295 := Aside0.mk (hbox); have GW295 := gs HB hg; have GE295 := gs HB hg; have NB294_295 := nl BK294 hg; have NB295_294 := nr BK294 hg; replace BK294 := kb BK294 hb; replace HB := wb HB hb; clear hb hbox hg))
 (try simp only [Act.put, List.setIfInBounds_toArray, List.set_cons_zero, List.set_cons_succ])
 go_cut [5] (fun v5 wc => ∃ (kq : Nat) (x5_2 : Bool), v5 = .bool x5_2 ∧ Aside0 (ratio_wide_compare.j0 kq x5_2 a0_0 a0_1 a0_2 a1_0 a1_1 a1_2 = some r) ∧ Aside0 (kq ≤ k) ∧ Aside0 (wc.heap[gb294]? = some (.cells #[.bool a0_0, .int .u64 a0_1, .int .u64 a0_2] 58 (0, 0))) ∧ Aside0 (wc.heap[gb295]? = some (.cells #[.bool a1_0, .int .u64 a1_1, .int .u64 a1_2] 58 (0, 0))) ∧ Aside0 (Below w.heap.size w wc))
 case first =>
  have H := HC3.out; clear HC3
  by_cases c6 : a0_1 = a1_1
  ·rw [if_pos c6] at H; have c6b0 : (a0_1 == a1_1) = true := beq_iff_eq.mpr c6; have c6b1 : (a0_1 != a1_1) = false := bne_eq_false_iff_eq.mpr c6; clear c6
   (first | rw [c6b0] | (simp only [i64_w, i32_w]; rw [c6b0]) | skip)
   have H' := Aside0.mk H; clear H; obtain ⟨hnb7, hnc7⟩ := n2 NB294_295; have hcz8_0 : w5.cell? ⟨gb294, 0, none⟩ = some (.bool a0_0) := bc BK294 0; have hcz8_1 : w5.cell? ⟨gb294, 1, none⟩ = some (.int .u64 a0_1) := bc BK294 1; have hcz8_2 : w5.cell? ⟨gb294, 2, none⟩ = some (.int .u64 a0_2) := bc BK294 2; have hfz8_0 := blk_frozen BK294.out 0; have hfz8_1 := blk_frozen BK294.out 1; have hfz8_2 := blk_frozen BK294.out 2; have hcz9_0 : w5.cell? ⟨gb295, 0, none⟩ = some (.bool a1_0) := bc BK295 0; have hcz9_1 : w5.cell? ⟨gb295, 1, none⟩ = some (.int .u64 a1_1) := bc BK295 1; have hcz9_2 : w5.cell? ⟨gb295, 2, none⟩ = some (.int .u64 a1_2) := bc BK295 2; have hfz9_0 := blk_frozen BK295.out 0; have hfz9_1 := blk_frozen BK295.out 1; have hfz9_2 := blk_frozen BK295.out 2; go_wp2
   go_meet
   case rel => exact ⟨_, (false), (by first | rfl | (simp; done) | (simp [*]; done)), H', ⟨by first | omega | exact Nat.le_refl _⟩, ⟨bq BK294⟩, ⟨bq BK295⟩, ⟨bw HB⟩⟩
  ·rw [if_neg c6] at H; have c6b0 : (a0_1 == a1_1) = false := beq_eq_false_iff_ne.mpr c6; have c6b1 : (a0_1 != a1_1) = true := bne_iff_ne.mpr c6
   (first | rw [c6b0] | (simp only [i64_w, i32_w]; rw [c6b0]) | skip)
   have H' := Aside0.mk H; clear H; obtain ⟨hnb10, hnc10⟩ := n2 NB294_295; have hcz11_0 : w5.cell? ⟨gb294, 0, none⟩ = some (.bool a0_0) := bc BK294 0; have hcz11_1 : w5.cell? ⟨gb294, 1, none⟩ = some (.int .u64 a0_1) := bc BK294 1; have hcz11_2 : w5.cell? ⟨gb294, 2, none⟩ = some (.int .u64 a0_2) := bc BK294 2; have hfz11_0 := blk_frozen BK294.out 0; have hfz11_1 := blk_frozen BK294.out 1; have hfz11_2 := blk_frozen BK294.out 2; have hcz12_0 : w5.cell? ⟨gb295, 0, none⟩ = some (.bool a1_0) := bc BK295 0; have hcz12_1 : w5.cell? ⟨gb295, 1, none⟩ = some (.int .u64 a1_1) := bc BK295 1; have hcz12_2 : w5.cell? ⟨gb295, 2, none⟩ = some (.int .u64 a1_2) := bc BK295 2; have hfz12_0 := blk_frozen BK295.out 0; have hfz12_1 := blk_frozen BK295.out 1; have hfz12_2 := blk_frozen BK295.out 2; go_wp2
   go_meet
   case rel => exact ⟨_, (decide (a0_1 < a1_1)), (by first | rfl | (simp; done) | (simp [*]; done)), H', ⟨by first | omega | exact Nat.le_refl _⟩, ⟨bq BK294⟩, ⟨bq BK295⟩, ⟨bw HB⟩⟩
 case rest =>
  clear HC3; (try clear c1); (try clear p2); (try clear c5); (try clear c6); (try clear c6b0); (try clear c6b1); (try clear c7); (try clear c10); (try clear hcz11_0); (try clear hcz11_1); (try clear hcz11_2); (try clear hcz12_0); (try clear hcz12_1); (try clear hcz12_2); (try clear hcz8_0); (try clear hcz8_1); (try clear hcz8_2); (try clear hcz9_0); (try clear hcz9_1); (try clear hcz9_2); (try clear hfz11_0); (try clear hfz11_1); (try clear hfz11_2); (try clear hfz12_0); (try clear hfz12_1); (try clear hfz12_2); (try clear hfz8_0); (try clear hfz8_1); (try clear hfz8_2); (try clear hfz9_0); (try clear hfz9_1); (try clear hfz9_2); obtain ⟨kq, x5_2, rfl, HA, HJ2, BK294, BK295, HB⟩ := hcut
  cases kq with
  | zero => exact absurd HA.out (by simp [ratio_wide_compare.j0])
  | succ kj2 =>
   have H := HA.out; clear HA; simp only [ratio_wide_compare.j0] at H; have HC13 := Aside0.mk H; clear H
   go_upto_if 5 with (fail)
   go_cut [5] (fun v5 wc => ∃ (kq : Nat) (x5_12 : Bool), v5 = .bool x5_12 ∧ Aside0 (ratio_wide_compare.j1 kq x5_12 a0_0 a0_1 a0_2 a1_0 a1_1 a1_2 = some r) ∧ Aside0 (kq ≤ kj2) ∧ Aside0 (wc.heap[gb294]? = some (.cells #[.bool a0_0, .int .u64 a0_1, .int .u64 a0_2] 58 (0, 0))) ∧ Aside0 (wc.heap[gb295]? = some (.cells #[.bool a1_0, .int .u64 a1_1, .int .u64 a1_2] 58 (0, 0))) ∧ Aside0 (Below w.heap.size w wc))
   case first =>
    have H := HC13.out; clear HC13
    by_cases c14 : x5_2 = true
    ·subst c14; (have H1 : (ratio_wide_compare.j1 kj2 true a0_0 a0_1 a0_2 a1_0 a1_1 a1_2) = some r := by rw [if_pos rfl] at H; exact H); clear H; have H := H1; clear H1; have H' := Aside0.mk H; clear H; go_wp2
     go_meet
     case rel => exact ⟨_, (true), (by first | rfl | (simp; done) | (simp [*]; done)), H', ⟨by have := HJ2.out; first | omega | exact Nat.le_refl _⟩, ⟨bq BK294⟩, ⟨bq BK295⟩, ⟨bw HB⟩⟩
    ·replace c14 := Bool.eq_false_iff.mpr c14; subst c14; (have H1 : (if a0_1 = a1_1 then (ratio_wide_compare.j1 kj2 (decide (a0_2 < a1_2)) a0_0 a0_1 a0_2 a1_0 a1_1 a1_2) else (ratio_wide_compare.j1 kj2 false a0_0 a0_1 a0_2 a1_0 a1_1 a1_2)) = some r := by rw [if_neg (show ¬ (false = true) by decide)] at H; exact H); clear H; have H := H1; clear H1
     by_cases c15 : a0_1 = a1_1
     ·rw [if_pos c15] at H; have c15b0 : (a0_1 == a1_1) = true := beq_iff_eq.mpr c15; have c15b1 : (a0_1 != a1_1) = false := bne_eq_false_iff_eq.mpr c15; clear c15
      (first | rw [c15b0] | (simp only [i64_w, i32_w]; rw [c15b0]) | skip)
      have H' := Aside0.mk H; clear H; obtain ⟨hnb16, hnc16⟩ := n2 NB294_295; have hcz17_0 : wc.cell? ⟨gb294, 0, none⟩ = some (.bool a0_0) := bc BK294 0; have hcz17_1 : wc.cell? ⟨gb294, 1, none⟩ = some (.int .u64 a0_1) := bc BK294 1; have hcz17_2 : wc.cell? ⟨gb294, 2, none⟩ = some (.int .u64 a0_2) := bc BK294 2; have hfz17_0 := blk_frozen BK294.out 0; have hfz17_1 := blk_frozen BK294.out 1; have hfz17_2 := blk_frozen BK294.out 2; have hcz18_0 : wc.cell? ⟨gb295, 0, none⟩ = some (.bool a1_0) := bc BK295 0; have hcz18_1 : wc.cell? ⟨gb295, 1, none⟩ = some (.int .u64 a1_1) := bc BK295 1; have hcz18_2 : wc.cell? ⟨gb295, 2, none⟩ = some (.int .u64 a1_2) := bc BK295 2; have hfz18_0 := blk_frozen BK295.out 0; have hfz18_1 := blk_frozen BK295.out 1; have hfz18_2 := blk_frozen BK295.out 2; go_wp2
      go_meet
      case rel => exact ⟨_, (decide (a0_2 < a1_2)), (by first | rfl | (simp; done) | (simp [*]; done)), H', ⟨by have := HJ2.out; first | omega | exact Nat.le_refl _⟩, ⟨bq BK294⟩, ⟨bq BK295⟩, ⟨bw HB⟩⟩
     ·rw [if_neg c15] at H; have c15b0 : (a0_1 == a1_1) = false := beq_eq_false_iff_ne.mpr c15; have c15b1 : (a0_1 != a1_1) = true := bne_iff_ne.mpr c15
      (first | rw [c15b0] | (simp only [i64_w, i32_w]; rw [c15b0]) | skip)
      have H' := Aside0.mk H; clear H; obtain ⟨hnb19, hnc19⟩ := n2 NB294_295; have hcz20_0 : wc.cell? ⟨gb294, 0, none⟩ = some (.bool a0_0) := bc BK294 0; have hcz20_1 : wc.cell? ⟨gb294, 1, none⟩ = some (.int .u64 a0_1) := bc BK294 1; have hcz20_2 : wc.cell? ⟨gb294, 2, none⟩ = some (.int .u64 a0_2) := bc BK294 2; have hfz20_0 := blk_frozen BK294.out 0; have hfz20_1 := blk_frozen BK294.out 1; have hfz20_2 := blk_frozen BK294.out 2; have hcz21_0 : wc.cell? ⟨gb295, 0, none⟩ = some (.bool a1_0) := bc BK295 0; have hcz21_1 : wc.cell? ⟨gb295, 1, none⟩ = some (.int .u64 a1_1) := bc BK295 1; have hcz21_2 : wc.cell? ⟨gb295, 2, none⟩ = some (.int .u64 a1_2) := bc BK295 2; have hfz21_0 := blk_frozen BK295.out 0; have hfz21_1 := blk_frozen BK295.out 1; have hfz21_2 := blk_frozen BK295.out 2; go_wp2
      go_meet
      case rel => exact ⟨_, (false), (by first | rfl | (simp; done) | (simp [*]; done)), H', ⟨by have := HJ2.out; first | omega | exact Nat.le_refl _⟩, ⟨bq BK294⟩, ⟨bq BK295⟩, ⟨bw HB⟩⟩
   case rest =>
    clear HC13; (try clear c1); (try clear p2); (try clear c5); (try clear c6); (try clear c6b0); (try clear c6b1); (try clear c7); (try clear c10); (try clear c14); (try clear c15); (try clear c15b0); (try clear c15b1); (try clear c16); (try clear c19); (try clear hcz11_0); (try clear hcz11_1); (try clear hcz11_2); (try clear hcz12_0); (try clear hcz12_1); (try clear hcz12_2); (try clear hcz17_0); (try clear hcz17_1); (try clear hcz17_2); (try clear hcz18_0); (try clear hcz18_1); (try clear hcz18_2); (try clear hcz20_0); (try clear hcz20_1); (try clear hcz20_2); (try clear hcz21_0); (try clear hcz21_1); (try clear hcz21_2); (try clear hcz8_0); (try clear hcz8_1); (try clear hcz8_2); (try clear hcz9_0); (try clear hcz9_1); (try clear hcz9_2); (try clear hfz11_0); (try clear hfz11_1); (try clear hfz11_2); (try clear hfz12_0); (try clear hfz12_1); (try clear hfz12_2); (try clear hfz17_0); (try clear hfz17_1); (try clear hfz17_2); (try clear hfz18_0); (try clear hfz18_1); (try clear hfz18_2); (try clear hfz20_0); (try clear hfz20_1); (try clear hfz20_2); (try clear hfz21_0); (try clear hfz21_1); (try clear hfz21_2); (try clear hfz8_0); (try clear hfz8_1); (try clear hfz8_2); (try clear hfz9_0); (try clear hfz9_1); (try clear hfz9_2); (try clear p2); obtain ⟨kq, x5_12, rfl, HA, HJ12, BK294, BK295, HB⟩ := hcut
    cases kq with
    | zero => exact absurd HA.out (by simp [ratio_wide_compare.j1])
    | succ kj12 =>
     have H := HA.out; clear HA; simp only [ratio_wide_compare.j1] at H
     by_cases c22 : x5_12 = true
     ·subst c22; (have H1 : (some (-1)) = some r := by rw [if_pos rfl] at H; exact H); clear H; have H := H1; clear H1; obtain rfl := Option.some.inj H; (go_wp2); (go_ret); exact ⟨by first | rfl | (simp [errW_none, errW_some] <;> rfl) | (simp [*, errW_none, errW_some] <;> rfl), bw HB⟩
     ·replace c22 := Bool.eq_false_iff.mpr c22; subst c22; (have H1 : (if a0_1 = a1_1 then (if a0_2 = a1_2 then (some 0) else (some 1)) else (some 1)) = some r := by rw [if_neg (show ¬ (false = true) by decide)] at H; exact H); clear H; have H := H1; clear H1
      by_cases c23 : a0_1 = a1_1
      ·rw [if_pos c23] at H; have c23b0 : (a0_1 == a1_1) = true := beq_iff_eq.mpr c23; have c23b1 : (a0_1 != a1_1) = false := bne_eq_false_iff_eq.mpr c23; clear c23
       by_cases c24 : a0_2 = a1_2
       ·rw [if_pos c24] at H; have c24b0 : (a0_2 == a1_2) = true := beq_iff_eq.mpr c24; have c24b1 : (a0_2 != a1_2) = false := bne_eq_false_iff_eq.mpr c24; clear c24; obtain rfl := Option.some.inj H; obtain ⟨hnb25, hnc25⟩ := n2 NB294_295; have hcz26_0 : wc.cell? ⟨gb294, 0, none⟩ = some (.bool a0_0) := bc BK294 0; have hcz26_1 : wc.cell? ⟨gb294, 1, none⟩ = some (.int .u64 a0_1) := bc BK294 1; have hcz26_2 : wc.cell? ⟨gb294, 2, none⟩ = some (.int .u64 a0_2) := bc BK294 2; have hfz26_0 := blk_frozen BK294.out 0; have hfz26_1 := blk_frozen BK294.out 1; have hfz26_2 := blk_frozen BK294.out 2; have hcz27_0 : wc.cell? ⟨gb295, 0, none⟩ = some (.bool a1_0) := bc BK295 0; have hcz27_1 : wc.cell? ⟨gb295, 1, none⟩ = some (.int .u64 a1_1) := bc BK295 1; have hcz27_2 : wc.cell? ⟨gb295, 2, none⟩ = some (.int .u64 a1_2) := bc BK295 2; have hfz27_0 := blk_frozen BK295.out 0; have hfz27_1 := blk_frozen BK295.out 1; have hfz27_2 := blk_frozen BK295.out 2; (go_wp2); (go_ret); exact ⟨by first | rfl | (simp [errW_none, errW_some] <;> rfl) | (simp [*, errW_none, errW_some] <;> rfl), bw HB⟩
       ·rw [if_neg c24] at H; have c24b0 : (a0_2 == a1_2) = false := beq_eq_false_iff_ne.mpr c24; have c24b1 : (a0_2 != a1_2) = true := bne_iff_ne.mpr c24; obtain rfl := Option.some.inj H; obtain ⟨hnb28, hnc28⟩ := n2 NB294_295; have hcz29_0 : wc.cell? ⟨gb294, 0, none⟩ = some (.bool a0_0) := bc BK294 0; have hcz29_1 : wc.cell? ⟨gb294, 1, none⟩ = some (.int .u64 a0_1) := bc BK294 1; have hcz29_2 : wc.cell? ⟨gb294, 2, none⟩ = some (.int .u64 a0_2) := bc BK294 2; have hfz29_0 := blk_frozen BK294.out 0; have hfz29_1 := blk_frozen BK294.out 1; have hfz29_2 := blk_frozen BK294.out 2; have hcz30_0 : wc.cell? ⟨gb295, 0, none⟩ = some (.bool a1_0) := bc BK295 0; have hcz30_1 : wc.cell? ⟨gb295, 1, none⟩ = some (.int .u64 a1_1) := bc BK295 1; have hcz30_2 : wc.cell? ⟨gb295, 2, none⟩ = some (.int .u64 a1_2) := bc BK295 2; have hfz30_0 := blk_frozen BK295.out 0; have hfz30_1 := blk_frozen BK295.out 1; have hfz30_2 := blk_frozen BK295.out 2; (go_wp2); (go_ret); exact ⟨by first | rfl | (simp [errW_none, errW_some] <;> rfl) | (simp [*, errW_none, errW_some] <;> rfl), bw HB⟩
      ·rw [if_neg c23] at H; have c23b0 : (a0_1 == a1_1) = false := beq_eq_false_iff_ne.mpr c23; have c23b1 : (a0_1 != a1_1) = true := bne_iff_ne.mpr c23; obtain rfl := Option.some.inj H; obtain ⟨hnb31, hnc31⟩ := n2 NB294_295; have hcz32_0 : wc.cell? ⟨gb294, 0, none⟩ = some (.bool a0_0) := bc BK294 0; have hcz32_1 : wc.cell? ⟨gb294, 1, none⟩ = some (.int .u64 a0_1) := bc BK294 1; have hcz32_2 : wc.cell? ⟨gb294, 2, none⟩ = some (.int .u64 a0_2) := bc BK294 2; have hfz32_0 := blk_frozen BK294.out 0; have hfz32_1 := blk_frozen BK294.out 1; have hfz32_2 := blk_frozen BK294.out 2; have hcz33_0 : wc.cell? ⟨gb295, 0, none⟩ = some (.bool a1_0) := bc BK295 0; have hcz33_1 : wc.cell? ⟨gb295, 1, none⟩ = some (.int .u64 a1_1) := bc BK295 1; have hcz33_2 : wc.cell? ⟨gb295, 2, none⟩ = some (.int .u64 a1_2) := bc BK295 2; have hfz33_0 := blk_frozen BK295.out 0; have hfz33_1 := blk_frozen BK295.out 1; have hfz33_2 := blk_frozen BK295.out 2; (go_wp2); (go_ret); exact ⟨by first | rfl | (simp [errW_none, errW_some] <;> rfl) | (simp [*, errW_none, errW_some] <;> rfl), bw HB⟩

end Go.Proofs.YtbapkiclgkddcaaGreatDoor.G

-- Printed by gp.py (a program of this session's own, over the kit's printer) out of the translation; Lean checks it.
namespace Go.Proofs.YtbapkiclgkddcaaGreatDoor.G
open Go.Proofs.YtbapkiclgkddcaaGreatDoor.Given Go.Proofs.YtbapkiclgkddcaaGreatDoor.Short
open Go.RowKit Go.Proofs.YtbapkiclgkddcaaGreatDoorW.PrintWords Go.Proofs.YtbapkiclgkddcaaGreatDoorW.PrintLast Go.Proofs.YtbapkiclgkddcaaGreatDoorW.PrintMore
attribute [local go_sem] max2_int min2_int max_two min_two max_three min_three max_four min_four   -- for this text's walks alone
set_option linter.unusedVariables false
set_option linter.unusedSimpArgs false

/-! ### ratio_wide_plus: function 30 -/
def ratio_wide_plus.f (k : Nat) (a0_0 : Bool) (a0_1 : Int) (a0_2 : Int) (a1_0 : Bool) (a1_1 : Int) (a1_2 : Int) : Option (Bool × Int × Int) := if (a0_0 == a1_0) = true then ((bits_Add64.f a0_2 a1_2 0).bind fun bt299 => ((bits_Add64.f a0_1 a1_1 bt299.2).bind fun bt301 => (some (a0_0, bt301.1, bt299.1)))) else ((ratio_wide_compare.f k a0_0 a0_1 a0_2 a1_0 a1_1 a1_2).bind fun t303 => (if t303 < 0 then ((bits_Sub64.f a1_2 a0_2 0).bind fun bt304 => ((bits_Sub64.f a1_1 a0_1 bt304.2).bind fun bt306 => (some (a1_0, bt306.1, bt304.1)))) else ((bits_Sub64.f a0_2 a1_2 0).bind fun bt308 => ((bits_Sub64.f a0_1 a1_1 bt308.2).bind fun bt310 => (some (a0_0, bt310.1, bt308.1))))))
theorem ratio_wide_plus.mono : ∀ a0 a1 a2 a3 a4 a5 k, LeO (ratio_wide_plus.f k a0 a1 a2 a3 a4 a5) (ratio_wide_plus.f (k + 1) a0 a1 a2 a3 a4 a5) := by
 intro a0 a1 a2 a3 a4 a5 k; unfold ratio_wide_plus.f
 repeat' first
   | (with_reducible exact ratio_wide_compare.mono _ _ _ _ _ _ _)
   | (with_reducible exact LeO.refl _)
   | (with_reducible exact LeO.none _)
   | (with_reducible refine LeO.ite ?_ ?_)
   | (with_reducible refine LeO.bind ?_ (fun _ => ?_))
   | exact ratio_wide_compare.mono _ _ _ _ _ _ _
   | exact LeO.none _
   | refine LeO.ite ?_ ?_
   | refine LeO.bind ?_ (fun _ => ?_)
set_option maxHeartbeats 8000000 in
set_option maxRecDepth 100000 in
theorem ratio_wide_plus.calls (k : Nat) (a0_0 : Bool) (a0_1 : Int) (a0_2 : Int) (a1_0 : Bool) (a1_1 : Int) (a1_2 : Int) (r1 : Bool) (r2 : Int) (r3 : Int) (w : World) (h : ratio_wide_plus.f k a0_0 a0_1 a0_2 a1_0 a1_1 a1_2 = some (r1, r2, r3)) :
  Calls Tryz.prog 30 #[.agg #[.bool a0_0, .int .u64 a0_1, .int .u64 a0_2], .agg #[.bool a1_0, .int .u64 a1_1, .int .u64 a1_2]] w fun e w' => e = .returned (.agg #[.bool r1, .int .u64 r2, .int .u64 r3]) ∧ Below w.heap.size w w' := by
 have hu58 := Tryz.underlying58; have HB := Aside0.mk (Below.refl w.heap.size w); have H : (if (a0_0 == a1_0) = true then ((bits_Add64.f a0_2 a1_2 0).bind fun bt299 => ((bits_Add64.f a0_1 a1_1 bt299.2).bind fun bt301 => (some (a0_0, bt301.1, bt299.1)))) else ((ratio_wide_compare.f k a0_0 a0_1 a0_2 a1_0 a1_1 a1_2).bind fun t303 => (if t303 < 0 then ((bits_Sub64.f a1_2 a0_2 0).bind fun bt304 => ((bits_Sub64.f a1_1 a0_1 bt304.2).bind fun bt306 => (some (a1_0, bt306.1, bt304.1)))) else ((bits_Sub64.f a0_2 a1_2 0).bind fun bt308 => ((bits_Sub64.f a0_1 a1_1 bt308.2).bind fun bt310 => (some (a0_0, bt310.1, bt308.1))))))) = some (r1, r2, r3) := h; clear h; have HC3 := Aside0.mk H; clear H; go_enter Tryz.func30, Tryz.ntmps30
 go_upto_if 17 with (first | ((with_reducible refine gate_dst (N := 2) rfl ?_); refine bx (N := 2) (cs := #[.bool a0_0, .int .u64 a0_1, .int .u64 a0_2]) (t := 58) ?_; intro gb296 hg w4 hbox hb; have BK296 := Aside0.mk (hbox); have GW296 := gs HB hg; have GE296 := gs HB hg; replace HB := wb HB hb; clear hb hbox hg) | ((with_reducible refine gate_dst (N := 3) rfl ?_); refine bx (N := 3) (cs := #[.bool a1_0, .int .u64 a1_1, .int .u64 a1_2]) (t := 58) ?_; intro gb297 hg w5 hbox hb; have BK297 := Aside0.mk (hbox); have GW297 := gs HB hg; have GE297 := gs HB hg; have NB296_297 := nl BK296 hg; have NB297_296 := nr BK296 hg; replace BK296 := kb BK296 hb; replace HB := wb HB hb; clear hb hbox hg) | ((with_reducible refine gate_dst (N := 4) rfl ?_); refine bx (N := 4) (cs := #[.bool false, .int .u64 0, .int .u64 0]) (t := 58) ?_; intro gb298 hg w6 hbox hb; have BK298 := Aside0.mk (hbox); have GW298 := gs HB hg; have GE298 := gs HB hg; have NB296_298 := nl BK296 hg; have NB298_296 := nr BK296 hg; have NB297_298 := nl BK297 hg; have NB298_297 := nr BK297 hg; replace BK296 := kb BK296 hb; replace BK297 := kb BK297 hb; replace HB := wb HB hb; clear hb hbox hg; obtain ⟨hnb7, hnc7⟩ := n2 NB296_297; obtain ⟨hnb8, hnc8⟩ := n2 NB296_298; have hcz9_0 : w6.cell? ⟨gb296, 0, none⟩ = some (.bool a0_0) := bc BK296 0; have hcz9_1 : w6.cell? ⟨gb296, 1, none⟩ = some (.int .u64 a0_1) := bc BK296 1; have hcz9_2 : w6.cell? ⟨gb296, 2, none⟩ = some (.int .u64 a0_2) := bc BK296 2; have hfz9_0 := blk_frozen BK296.out 0; have hfz9_1 := blk_frozen BK296.out 1; have hfz9_2 := blk_frozen BK296.out 2; obtain ⟨hnb10, hnc10⟩ := n2 NB297_298; have hcz11_0 : w6.cell? ⟨gb297, 0, none⟩ = some (.bool a1_0) := bc BK297 0; have hcz11_1 : w6.cell? ⟨gb297, 1, none⟩ = some (.int .u64 a1_1) := bc BK297 1; have hcz11_2 : w6.cell? ⟨gb297, 2, none⟩ = some (.int .u64 a1_2) := bc BK297 2; have hfz11_0 := blk_frozen BK297.out 0; have hfz11_1 := blk_frozen BK297.out 1; have hfz11_2 := blk_frozen BK297.out 2))
 (try simp only [Act.put, List.setIfInBounds_toArray, List.set_cons_zero, List.set_cons_succ]); have H := HC3.out; clear HC3
 by_cases c12 : (a0_0 == a1_0) = true
 ·rw [if_pos c12] at H; have c12b0 : (a0_0 == a1_0) = true := c12; (try (have c12b1 : decide (a0_0 = a1_0) = true := by simpa using c12)); (try (have c12b2 : (a0_0 == a1_0) = true := by simpa using c12)); clear c12
  (first | rw [c12b0] | (simp only [i64_w, i32_w]; rw [c12b0]) | skip)
  replace H := Option.bind_eq_some_iff.mp H; obtain ⟨⟨t299, t300⟩, A130, H⟩ := H; (try dsimp only at H); have A13 := Aside0.mk A130; clear A130; replace H := Option.bind_eq_some_iff.mp H; obtain ⟨⟨t301, t302⟩, A140, H⟩ := H; (try dsimp only at H); have A14 := Aside0.mk A140; clear A140; simp only [Option.some.injEq, Prod.mk.injEq] at H; obtain ⟨rfl, rfl, rfl⟩ := H; obtain ⟨hnb15, hnc15⟩ := n2 NB296_297; obtain ⟨hnb16, hnc16⟩ := n2 NB296_298; have hcz17_0 : w6.cell? ⟨gb296, 0, none⟩ = some (.bool a0_0) := bc BK296 0; have hcz17_1 : w6.cell? ⟨gb296, 1, none⟩ = some (.int .u64 a0_1) := bc BK296 1; have hcz17_2 : w6.cell? ⟨gb296, 2, none⟩ = some (.int .u64 a0_2) := bc BK296 2; have hfz17_0 := blk_frozen BK296.out 0; have hfz17_1 := blk_frozen BK296.out 1; have hfz17_2 := blk_frozen BK296.out 2; obtain ⟨hnb18, hnc18⟩ := n2 NB297_298; have hcz19_0 : w6.cell? ⟨gb297, 0, none⟩ = some (.bool a1_0) := bc BK297 0; have hcz19_1 : w6.cell? ⟨gb297, 1, none⟩ = some (.int .u64 a1_1) := bc BK297 1; have hcz19_2 : w6.cell? ⟨gb297, 2, none⟩ = some (.int .u64 a1_2) := bc BK297 2; have hfz19_0 := blk_frozen BK297.out 0; have hfz19_1 := blk_frozen BK297.out 1; have hfz19_2 := blk_frozen BK297.out 2; (go_wp2_with (first | ((with_reducible refine gate_callee (f := 55) rfl ?_); refine gx (some 23) Tryz.func55 #[.int .u64 a0_2, .int .u64 a1_2, .int .u64 0] ?_; (with_reducible refine (bits_Add64.calls a0_2 a1_2 0 t299 t300 _ A13.out).mono ?_); rintro e w20 ⟨rfl, hb⟩; refine ⟨_, rfl, ?_⟩; replace BK296 := kb BK296 hb; replace BK297 := kb BK297 hb; replace BK298 := kb BK298 hb; replace HB := wb HB hb; (try clear hb); (try clear hb2); (try clear hk); (try clear hi); have hcz21_0 : w20.cell? ⟨gb296, 0, none⟩ = some (.bool a0_0) := bc BK296 0; have hcz21_1 : w20.cell? ⟨gb296, 1, none⟩ = some (.int .u64 a0_1) := bc BK296 1; have hcz21_2 : w20.cell? ⟨gb296, 2, none⟩ = some (.int .u64 a0_2) := bc BK296 2; have hfz21_0 := blk_frozen BK296.out 0; have hfz21_1 := blk_frozen BK296.out 1; have hfz21_2 := blk_frozen BK296.out 2; have hcz22_0 : w20.cell? ⟨gb297, 0, none⟩ = some (.bool a1_0) := bc BK297 0; have hcz22_1 : w20.cell? ⟨gb297, 1, none⟩ = some (.int .u64 a1_1) := bc BK297 1; have hcz22_2 : w20.cell? ⟨gb297, 2, none⟩ = some (.int .u64 a1_2) := bc BK297 2; have hfz22_0 := blk_frozen BK297.out 0; have hfz22_1 := blk_frozen BK297.out 1; have hfz22_2 := blk_frozen BK297.out 2) | ((with_reducible refine gate_callee (f := 55) rfl ?_); refine gx (some 32) Tryz.func55 #[.int .u64 a0_1, .int .u64 a1_1, .int .u64 t300] ?_; (with_reducible refine (bits_Add64.calls a0_1 a1_1 t300 t301 t302 _ A14.out).mono ?_); rintro e w23 ⟨rfl, hb⟩; refine ⟨_, rfl, ?_⟩; replace BK296 := kb BK296 hb; replace BK297 := kb BK297 hb; replace BK298 := kb BK298 hb; replace HB := wb HB hb; (try clear hb); (try clear hb2); (try clear hk); (try clear hi); have hcz24_0 : w23.cell? ⟨gb296, 0, none⟩ = some (.bool a0_0) := bc BK296 0; have hcz24_1 : w23.cell? ⟨gb296, 1, none⟩ = some (.int .u64 a0_1) := bc BK296 1; have hcz24_2 : w23.cell? ⟨gb296, 2, none⟩ = some (.int .u64 a0_2) := bc BK296 2; have hfz24_0 := blk_frozen BK296.out 0; have hfz24_1 := blk_frozen BK296.out 1; have hfz24_2 := blk_frozen BK296.out 2; have hcz25_0 : w23.cell? ⟨gb298, 0, none⟩ = some (.bool false) := bc BK298 0; have hcz25_1 : w23.cell? ⟨gb298, 1, none⟩ = some (.int .u64 0) := bc BK298 1; have hcz25_2 : w23.cell? ⟨gb298, 2, none⟩ = some (.int .u64 0) := bc BK298 2; have hfz25_0 := blk_frozen BK298.out 0; have hfz25_1 := blk_frozen BK298.out 1; have hfz25_2 := blk_frozen BK298.out 2))); refine bodyPost_ret (results_cell_row rfl _ _ gb298 58 #[.bool a0_0, .int .u64 t301, .int .u64 t299] (0, 0) _ rfl (by refine pe ?_; refine blk_put (cs := #[.bool a0_0, .int .u64 t301, .int .u64 0]) ?_ 2 _ rfl; refine pe ?_; refine blk_put (cs := #[.bool a0_0, .int .u64 0, .int .u64 0]) ?_ 1 _ rfl; refine pe ?_; refine blk_put (cs := #[.bool false, .int .u64 0, .int .u64 0]) ?_ 0 _ rfl; refine pe ?_; exact BK298.out) Tryz.underlying58 rfl (by kernel_rfl)) rfl ?_; exact ⟨by first | rfl | (simp [errW_none, errW_some] <;> rfl) | (simp [*, errW_none, errW_some] <;> rfl), bw HB⟩
 ·rw [if_neg c12] at H; (have c12b0 : (a0_0 == a1_0) = false := by simpa using c12); (try (have c12b1 : decide (a0_0 = a1_0) = false := by simpa using c12)); (try (have c12b2 : (a0_0 == a1_0) = false := by simpa using c12)); (try (have c12b3 : ¬ (a0_0 = a1_0) := by simpa using c12)); clear c12
  (first | rw [c12b0] | (simp only [i64_w, i32_w]; rw [c12b0]) | skip)
  replace H := Option.bind_eq_some_iff.mp H; obtain ⟨t303, A260, H⟩ := H; (try dsimp only at H); have A26 := Aside0.mk A260; clear A260
  by_cases c27 : t303 < 0
  ·rw [if_pos c27] at H; have c27b0 : decide (t303 < 0) = true := decide_eq_true c27; clear c27; replace H := Option.bind_eq_some_iff.mp H; obtain ⟨⟨t304, t305⟩, A280, H⟩ := H; (try dsimp only at H); have A28 := Aside0.mk A280; clear A280; replace H := Option.bind_eq_some_iff.mp H; obtain ⟨⟨t306, t307⟩, A290, H⟩ := H; (try dsimp only at H); have A29 := Aside0.mk A290; clear A290; simp only [Option.some.injEq, Prod.mk.injEq] at H; obtain ⟨rfl, rfl, rfl⟩ := H; obtain ⟨hnb30, hnc30⟩ := n2 NB296_297; obtain ⟨hnb31, hnc31⟩ := n2 NB296_298; have hcz32_0 : w6.cell? ⟨gb296, 0, none⟩ = some (.bool a0_0) := bc BK296 0; have hcz32_1 : w6.cell? ⟨gb296, 1, none⟩ = some (.int .u64 a0_1) := bc BK296 1; have hcz32_2 : w6.cell? ⟨gb296, 2, none⟩ = some (.int .u64 a0_2) := bc BK296 2; have hfz32_0 := blk_frozen BK296.out 0; have hfz32_1 := blk_frozen BK296.out 1; have hfz32_2 := blk_frozen BK296.out 2; obtain ⟨hnb33, hnc33⟩ := n2 NB297_298; have hcz34_0 : w6.cell? ⟨gb297, 0, none⟩ = some (.bool a1_0) := bc BK297 0; have hcz34_1 : w6.cell? ⟨gb297, 1, none⟩ = some (.int .u64 a1_1) := bc BK297 1; have hcz34_2 : w6.cell? ⟨gb297, 2, none⟩ = some (.int .u64 a1_2) := bc BK297 2; have hfz34_0 := blk_frozen BK297.out 0; have hfz34_1 := blk_frozen BK297.out 1; have hfz34_2 := blk_frozen BK297.out 2; (go_wp2_with (first | ((with_reducible refine gate_callee (f := 56) rfl ?_); refine gl (some 42) Tryz.func56 #[.agg #[.bool a0_0, .int .u64 a0_1, .int .u64 a0_2], .agg #[.bool a1_0, .int .u64 a1_1, .int .u64 a1_2]] ?_; (with_reducible refine (ratio_wide_compare.calls k a0_0 a0_1 a0_2 a1_0 a1_1 a1_2 t303 _ A26.out).mono ?_); rintro e w35 ⟨rfl, hb⟩; refine ⟨_, rfl, ?_⟩; replace BK296 := kb BK296 hb; replace BK297 := kb BK297 hb; replace BK298 := kb BK298 hb; replace HB := wb HB hb; (try clear hb); (try clear hb2); (try clear hk); (try clear hi); have hcz36_0 : w35.cell? ⟨gb297, 0, none⟩ = some (.bool a1_0) := bc BK297 0; have hcz36_1 : w35.cell? ⟨gb297, 1, none⟩ = some (.int .u64 a1_1) := bc BK297 1; have hcz36_2 : w35.cell? ⟨gb297, 2, none⟩ = some (.int .u64 a1_2) := bc BK297 2; have hfz36_0 := blk_frozen BK297.out 0; have hfz36_1 := blk_frozen BK297.out 1; have hfz36_2 := blk_frozen BK297.out 2; have hcz37_0 : w35.cell? ⟨gb296, 0, none⟩ = some (.bool a0_0) := bc BK296 0; have hcz37_1 : w35.cell? ⟨gb296, 1, none⟩ = some (.int .u64 a0_1) := bc BK296 1; have hcz37_2 : w35.cell? ⟨gb296, 2, none⟩ = some (.int .u64 a0_2) := bc BK296 2; have hfz37_0 := blk_frozen BK296.out 0; have hfz37_1 := blk_frozen BK296.out 1; have hfz37_2 := blk_frozen BK296.out 2) | ((with_reducible refine gate_callee (f := 57) rfl ?_); refine gx (some 51) Tryz.func57 #[.int .u64 a1_2, .int .u64 a0_2, .int .u64 0] ?_; (with_reducible refine (bits_Sub64.calls a1_2 a0_2 0 t304 t305 _ A28.out).mono ?_); rintro e w38 ⟨rfl, hb⟩; refine ⟨_, rfl, ?_⟩; replace BK296 := Aside0.mk (blk_below (g := gb296) (o := .cells #[.bool a1_0, .int .u64 a1_1, .int .u64 a1_2] 58 (0, 0)) (by refine pe ?_; refine blk_far ?_ NB296_297.out _; refine pe ?_; refine blk_far ?_ NB296_297.out _; refine pe ?_; refine blk_far ?_ NB296_297.out _; refine pe ?_; refine blk_put (cs := #[.bool a1_0, .int .u64 a1_1, .int .u64 a0_2]) ?_ 2 _ rfl; refine pe ?_; refine blk_put (cs := #[.bool a1_0, .int .u64 a0_1, .int .u64 a0_2]) ?_ 1 _ rfl; refine pe ?_; refine blk_put (cs := #[.bool a0_0, .int .u64 a0_1, .int .u64 a0_2]) ?_ 0 _ rfl; refine pe ?_; exact BK296.out) hb); replace BK297 := Aside0.mk (blk_below (g := gb297) (o := .cells #[.bool a0_0, .int .u64 a0_1, .int .u64 a0_2] 58 (0, 0)) (by refine pe ?_; refine blk_put (cs := #[.bool a0_0, .int .u64 a0_1, .int .u64 a1_2]) ?_ 2 _ rfl; refine pe ?_; refine blk_put (cs := #[.bool a0_0, .int .u64 a1_1, .int .u64 a1_2]) ?_ 1 _ rfl; refine pe ?_; refine blk_put (cs := #[.bool a1_0, .int .u64 a1_1, .int .u64 a1_2]) ?_ 0 _ rfl; refine pe ?_; refine blk_far ?_ NB297_296.out _; refine pe ?_; refine blk_far ?_ NB297_296.out _; refine pe ?_; refine blk_far ?_ NB297_296.out _; refine pe ?_; exact BK297.out) hb); replace BK298 := kb BK298 hb; replace HB := wb HB hb; (try clear hb); (try clear hb2); (try clear hk); (try clear hi); have hcz39_0 : w38.cell? ⟨gb296, 0, none⟩ = some (.bool a1_0) := bc BK296 0; have hcz39_1 : w38.cell? ⟨gb296, 1, none⟩ = some (.int .u64 a1_1) := bc BK296 1; have hcz39_2 : w38.cell? ⟨gb296, 2, none⟩ = some (.int .u64 a1_2) := bc BK296 2; have hfz39_0 := blk_frozen BK296.out 0; have hfz39_1 := blk_frozen BK296.out 1; have hfz39_2 := blk_frozen BK296.out 2; have hcz40_0 : w38.cell? ⟨gb297, 0, none⟩ = some (.bool a0_0) := bc BK297 0; have hcz40_1 : w38.cell? ⟨gb297, 1, none⟩ = some (.int .u64 a0_1) := bc BK297 1; have hcz40_2 : w38.cell? ⟨gb297, 2, none⟩ = some (.int .u64 a0_2) := bc BK297 2; have hfz40_0 := blk_frozen BK297.out 0; have hfz40_1 := blk_frozen BK297.out 1; have hfz40_2 := blk_frozen BK297.out 2) | ((with_reducible refine gate_callee (f := 57) rfl ?_); refine gx (some 60) Tryz.func57 #[.int .u64 a1_1, .int .u64 a0_1, .int .u64 t305] ?_; (with_reducible refine (bits_Sub64.calls a1_1 a0_1 t305 t306 t307 _ A29.out).mono ?_); rintro e w41 ⟨rfl, hb⟩; refine ⟨_, rfl, ?_⟩; replace BK296 := kb BK296 hb; replace BK297 := kb BK297 hb; replace BK298 := kb BK298 hb; replace HB := wb HB hb; (try clear hb); (try clear hb2); (try clear hk); (try clear hi); have hcz42_0 : w41.cell? ⟨gb296, 0, none⟩ = some (.bool a1_0) := bc BK296 0; have hcz42_1 : w41.cell? ⟨gb296, 1, none⟩ = some (.int .u64 a1_1) := bc BK296 1; have hcz42_2 : w41.cell? ⟨gb296, 2, none⟩ = some (.int .u64 a1_2) := bc BK296 2; have hfz42_0 := blk_frozen BK296.out 0; have hfz42_1 := blk_frozen BK296.out 1; have hfz42_2 := blk_frozen BK296.out 2; have hcz43_0 : w41.cell? ⟨gb298, 0, none⟩ = some (.bool false) := bc BK298 0; have hcz43_1 : w41.cell? ⟨gb298, 1, none⟩ = some (.int .u64 0) := bc BK298 1; have hcz43_2 : w41.cell? ⟨gb298, 2, none⟩ = some (.int .u64 0) := bc BK298 2; have hfz43_0 := blk_frozen BK298.out 0; have hfz43_1 := blk_frozen BK298.out 1; have hfz43_2 := blk_frozen BK298.out 2))); refine bodyPost_ret (results_cell_row rfl _ _ gb298 58 #[.bool a1_0, .int .u64 t306, .int .u64 t304] (0, 0) _ rfl (by refine pe ?_; refine blk_put (cs := #[.bool a1_0, .int .u64 t306, .int .u64 0]) ?_ 2 _ rfl; refine pe ?_; refine blk_put (cs := #[.bool a1_0, .int .u64 0, .int .u64 0]) ?_ 1 _ rfl; refine pe ?_; refine blk_put (cs := #[.bool false, .int .u64 0, .int .u64 0]) ?_ 0 _ rfl; refine pe ?_; exact BK298.out) Tryz.underlying58 rfl (by kernel_rfl)) rfl ?_; exact ⟨by first | rfl | (simp [errW_none, errW_some] <;> rfl) | (simp [*, errW_none, errW_some] <;> rfl), bw HB⟩
  ·rw [if_neg c27] at H; have c27b0 : decide (t303 < 0) = false := decide_eq_false c27; clear c27; replace H := Option.bind_eq_some_iff.mp H; obtain ⟨⟨t308, t309⟩, A440, H⟩ := H; (try dsimp only at H); have A44 := Aside0.mk A440; clear A440; replace H := Option.bind_eq_some_iff.mp H; obtain ⟨⟨t310, t311⟩, A450, H⟩ := H; (try dsimp only at H); have A45 := Aside0.mk A450; clear A450; simp only [Option.some.injEq, Prod.mk.injEq] at H; obtain ⟨rfl, rfl, rfl⟩ := H; obtain ⟨hnb46, hnc46⟩ := n2 NB296_297; obtain ⟨hnb47, hnc47⟩ := n2 NB296_298; have hcz48_0 : w6.cell? ⟨gb296, 0, none⟩ = some (.bool a0_0) := bc BK296 0; have hcz48_1 : w6.cell? ⟨gb296, 1, none⟩ = some (.int .u64 a0_1) := bc BK296 1; have hcz48_2 : w6.cell? ⟨gb296, 2, none⟩ = some (.int .u64 a0_2) := bc BK296 2; have hfz48_0 := blk_frozen BK296.out 0; have hfz48_1 := blk_frozen BK296.out 1; have hfz48_2 := blk_frozen BK296.out 2; obtain ⟨hnb49, hnc49⟩ := n2 NB297_298; have hcz50_0 : w6.cell? ⟨gb297, 0, none⟩ = some (.bool a1_0) := bc BK297 0; have hcz50_1 : w6.cell? ⟨gb297, 1, none⟩ = some (.int .u64 a1_1) := bc BK297 1; have hcz50_2 : w6.cell? ⟨gb297, 2, none⟩ = some (.int .u64 a1_2) := bc BK297 2; have hfz50_0 := blk_frozen BK297.out 0; have hfz50_1 := blk_frozen BK297.out 1; have hfz50_2 := blk_frozen BK297.out 2; (go_wp2_with (first | ((with_reducible refine gate_callee (f := 56) rfl ?_); refine gl (some 42) Tryz.func56 #[.agg #[.bool a0_0, .int .u64 a0_1, .int .u64 a0_2], .agg #[.bool a1_0, .int .u64 a1_1, .int .u64 a1_2]] ?_; (with_reducible refine (ratio_wide_compare.calls k a0_0 a0_1 a0_2 a1_0 a1_1 a1_2 t303 _ A26.out).mono ?_); rintro e w51 ⟨rfl, hb⟩; refine ⟨_, rfl, ?_⟩; replace BK296 := kb BK296 hb; replace BK297 := kb BK297 hb; replace BK298 := kb BK298 hb; replace HB := wb HB hb; (try clear hb); (try clear hb2); (try clear hk); (try clear hi); have hcz52_0 : w51.cell? ⟨gb296, 0, none⟩ = some (.bool a0_0) := bc BK296 0; have hcz52_1 : w51.cell? ⟨gb296, 1, none⟩ = some (.int .u64 a0_1) := bc BK296 1; have hcz52_2 : w51.cell? ⟨gb296, 2, none⟩ = some (.int .u64 a0_2) := bc BK296 2; have hfz52_0 := blk_frozen BK296.out 0; have hfz52_1 := blk_frozen BK296.out 1; have hfz52_2 := blk_frozen BK296.out 2; have hcz53_0 : w51.cell? ⟨gb297, 0, none⟩ = some (.bool a1_0) := bc BK297 0; have hcz53_1 : w51.cell? ⟨gb297, 1, none⟩ = some (.int .u64 a1_1) := bc BK297 1; have hcz53_2 : w51.cell? ⟨gb297, 2, none⟩ = some (.int .u64 a1_2) := bc BK297 2; have hfz53_0 := blk_frozen BK297.out 0; have hfz53_1 := blk_frozen BK297.out 1; have hfz53_2 := blk_frozen BK297.out 2) | ((with_reducible refine gate_callee (f := 57) rfl ?_); refine gx (some 51) Tryz.func57 #[.int .u64 a0_2, .int .u64 a1_2, .int .u64 0] ?_; (with_reducible refine (bits_Sub64.calls a0_2 a1_2 0 t308 t309 _ A44.out).mono ?_); rintro e w54 ⟨rfl, hb⟩; refine ⟨_, rfl, ?_⟩; replace BK296 := kb BK296 hb; replace BK297 := kb BK297 hb; replace BK298 := kb BK298 hb; replace HB := wb HB hb; (try clear hb); (try clear hb2); (try clear hk); (try clear hi); have hcz55_0 : w54.cell? ⟨gb296, 0, none⟩ = some (.bool a0_0) := bc BK296 0; have hcz55_1 : w54.cell? ⟨gb296, 1, none⟩ = some (.int .u64 a0_1) := bc BK296 1; have hcz55_2 : w54.cell? ⟨gb296, 2, none⟩ = some (.int .u64 a0_2) := bc BK296 2; have hfz55_0 := blk_frozen BK296.out 0; have hfz55_1 := blk_frozen BK296.out 1; have hfz55_2 := blk_frozen BK296.out 2; have hcz56_0 : w54.cell? ⟨gb297, 0, none⟩ = some (.bool a1_0) := bc BK297 0; have hcz56_1 : w54.cell? ⟨gb297, 1, none⟩ = some (.int .u64 a1_1) := bc BK297 1; have hcz56_2 : w54.cell? ⟨gb297, 2, none⟩ = some (.int .u64 a1_2) := bc BK297 2; have hfz56_0 := blk_frozen BK297.out 0; have hfz56_1 := blk_frozen BK297.out 1; have hfz56_2 := blk_frozen BK297.out 2) | ((with_reducible refine gate_callee (f := 57) rfl ?_); refine gx (some 60) Tryz.func57 #[.int .u64 a0_1, .int .u64 a1_1, .int .u64 t309] ?_; (with_reducible refine (bits_Sub64.calls a0_1 a1_1 t309 t310 t311 _ A45.out).mono ?_); rintro e w57 ⟨rfl, hb⟩; refine ⟨_, rfl, ?_⟩; replace BK296 := kb BK296 hb; replace BK297 := kb BK297 hb; replace BK298 := kb BK298 hb; replace HB := wb HB hb; (try clear hb); (try clear hb2); (try clear hk); (try clear hi); have hcz58_0 : w57.cell? ⟨gb296, 0, none⟩ = some (.bool a0_0) := bc BK296 0; have hcz58_1 : w57.cell? ⟨gb296, 1, none⟩ = some (.int .u64 a0_1) := bc BK296 1; have hcz58_2 : w57.cell? ⟨gb296, 2, none⟩ = some (.int .u64 a0_2) := bc BK296 2; have hfz58_0 := blk_frozen BK296.out 0; have hfz58_1 := blk_frozen BK296.out 1; have hfz58_2 := blk_frozen BK296.out 2; have hcz59_0 : w57.cell? ⟨gb298, 0, none⟩ = some (.bool false) := bc BK298 0; have hcz59_1 : w57.cell? ⟨gb298, 1, none⟩ = some (.int .u64 0) := bc BK298 1; have hcz59_2 : w57.cell? ⟨gb298, 2, none⟩ = some (.int .u64 0) := bc BK298 2; have hfz59_0 := blk_frozen BK298.out 0; have hfz59_1 := blk_frozen BK298.out 1; have hfz59_2 := blk_frozen BK298.out 2))); refine bodyPost_ret (results_cell_row rfl _ _ gb298 58 #[.bool a0_0, .int .u64 t310, .int .u64 t308] (0, 0) _ rfl (by refine pe ?_; refine blk_put (cs := #[.bool a0_0, .int .u64 t310, .int .u64 0]) ?_ 2 _ rfl; refine pe ?_; refine blk_put (cs := #[.bool a0_0, .int .u64 0, .int .u64 0]) ?_ 1 _ rfl; refine pe ?_; refine blk_put (cs := #[.bool false, .int .u64 0, .int .u64 0]) ?_ 0 _ rfl; refine pe ?_; exact BK298.out) Tryz.underlying58 rfl (by kernel_rfl)) rfl ?_; exact ⟨by first | rfl | (simp [errW_none, errW_some] <;> rfl) | (simp [*, errW_none, errW_some] <;> rfl), bw HB⟩

end Go.Proofs.YtbapkiclgkddcaaGreatDoor.G

-- Printed by gp.py (a program of this session's own, over the kit's printer) out of the translation; Lean checks it.
namespace Go.Proofs.YtbapkiclgkddcaaGreatDoor.G
open Go.Proofs.YtbapkiclgkddcaaGreatDoor.Given Go.Proofs.YtbapkiclgkddcaaGreatDoor.Short
open Go.RowKit Go.Proofs.YtbapkiclgkddcaaGreatDoorW.PrintWords Go.Proofs.YtbapkiclgkddcaaGreatDoorW.PrintLast Go.Proofs.YtbapkiclgkddcaaGreatDoorW.PrintMore
attribute [local go_sem] max2_int min2_int max_two min_two max_three min_three max_four min_four   -- for this text's walks alone
set_option linter.unusedVariables false
set_option linter.unusedSimpArgs false

/-! ### bits_Mul64: function 29 -/
def bits_Mul64.f (a0 : Int) (a1 : Int) : Option (Int × Int) := some (IntKind.u64.wrap ((IntKind.u64.wrap ((IntKind.u64.wrap ((a0 / 4294967296) * (a1 / 4294967296))) + ((IntKind.u64.wrap ((IntKind.u64.wrap ((a0 / 4294967296) * (Go.bits .and .u64 a1 4294967295))) + ((IntKind.u64.wrap ((Go.bits .and .u64 a0 4294967295) * (Go.bits .and .u64 a1 4294967295))) / 4294967296))) / 4294967296))) + ((IntKind.u64.wrap ((Go.bits .and .u64 (IntKind.u64.wrap ((IntKind.u64.wrap ((a0 / 4294967296) * (Go.bits .and .u64 a1 4294967295))) + ((IntKind.u64.wrap ((Go.bits .and .u64 a0 4294967295) * (Go.bits .and .u64 a1 4294967295))) / 4294967296))) 4294967295) + (IntKind.u64.wrap ((Go.bits .and .u64 a0 4294967295) * (a1 / 4294967296))))) / 4294967296)), IntKind.u64.wrap (a0 * a1))
set_option maxHeartbeats 8000000 in
set_option maxRecDepth 100000 in
theorem bits_Mul64.calls (a0 : Int) (a1 : Int) (r1 : Int) (r2 : Int) (w : World) (h : bits_Mul64.f a0 a1 = some (r1, r2)) :
  Calls Tryz.prog 29 #[.int .u64 a0, .int .u64 a1] w fun e w' => e = .returned (.tuple #[.int .u64 r1, .int .u64 r2]) ∧ Drawn0 w w' := by
 have H : (some (IntKind.u64.wrap ((IntKind.u64.wrap ((IntKind.u64.wrap ((a0 / 4294967296) * (a1 / 4294967296))) + ((IntKind.u64.wrap ((IntKind.u64.wrap ((a0 / 4294967296) * (Go.bits .and .u64 a1 4294967295))) + ((IntKind.u64.wrap ((Go.bits .and .u64 a0 4294967295) * (Go.bits .and .u64 a1 4294967295))) / 4294967296))) / 4294967296))) + ((IntKind.u64.wrap ((Go.bits .and .u64 (IntKind.u64.wrap ((IntKind.u64.wrap ((a0 / 4294967296) * (Go.bits .and .u64 a1 4294967295))) + ((IntKind.u64.wrap ((Go.bits .and .u64 a0 4294967295) * (Go.bits .and .u64 a1 4294967295))) / 4294967296))) 4294967295) + (IntKind.u64.wrap ((Go.bits .and .u64 a0 4294967295) * (a1 / 4294967296))))) / 4294967296)), IntKind.u64.wrap (a0 * a1))) = some (r1, r2) := h; clear h; simp only [Option.some.injEq, Prod.mk.injEq] at H; obtain ⟨rfl, rfl⟩ := H; (go_enter Tryz.func29, Tryz.ntmps29); go_wp2
 go_ret2
 exact ⟨by first | rfl | (simp; done) | (simp [*]; done), by repeat (first | exact Drawn0.refl _ | apply Drawn0.step)⟩

end Go.Proofs.YtbapkiclgkddcaaGreatDoor.G

-- Printed by gp.py (a program of this session's own, over the kit's printer) out of the translation; Lean checks it.
namespace Go.Proofs.YtbapkiclgkddcaaGreatDoor.G
open Go.Proofs.YtbapkiclgkddcaaGreatDoor.Given Go.Proofs.YtbapkiclgkddcaaGreatDoor.Short
open Go.RowKit Go.Proofs.YtbapkiclgkddcaaGreatDoorW.PrintWords Go.Proofs.YtbapkiclgkddcaaGreatDoorW.PrintLast Go.Proofs.YtbapkiclgkddcaaGreatDoorW.PrintMore
attribute [local go_sem] max2_int min2_int max_two min_two max_three min_three max_four min_four   -- for this text's walks alone
set_option linter.unusedVariables false
set_option linter.unusedSimpArgs false

/-! ### ratio_gcd: function 44 -/
def ratio_gcd.l0 : Nat → Int → Int → Option (Int)
 | 0, _, _ => none
 | k + 1, x0, x1 => if x1 = 0 then (some x0) else (ratio_gcd.l0 k x1 (Int.tmod x0 x1))
def ratio_gcd.f (k : Nat) (a0 : Int) (a1 : Int) : Option (Int) := ratio_gcd.l0 k a0 a1
theorem ratio_gcd.mono_l : ∀ k, (∀ y0 y1, LeO (ratio_gcd.l0 k y0 y1) (ratio_gcd.l0 (k + 1) y0 y1))
 | 0 => fun _ _ r h => by simp [ratio_gcd.l0] at h
 | k + 1 => by
  have ih0 := ratio_gcd.mono_l k
  ·intro y0 y1; unfold ratio_gcd.l0
   repeat' first
   | (with_reducible exact ih0 _ _)
   | (with_reducible exact LeO.refl _)
   | (with_reducible exact LeO.none _)
   | (with_reducible refine LeO.ite ?_ ?_)
   | (with_reducible refine LeO.bind ?_ (fun _ => ?_))
   | exact ih0 _ _
   | exact LeO.none _
   | refine LeO.ite ?_ ?_
   | refine LeO.bind ?_ (fun _ => ?_)
theorem ratio_gcd.mono : ∀ a0 a1 k, LeO (ratio_gcd.f k a0 a1) (ratio_gcd.f (k + 1) a0 a1) := by
 intro a0 a1 k; have ih0 := ratio_gcd.mono_l k; unfold ratio_gcd.f
 repeat' first
   | (with_reducible exact ih0 _ _)
   | (with_reducible exact LeO.refl _)
   | (with_reducible exact LeO.none _)
   | (with_reducible refine LeO.ite ?_ ?_)
   | (with_reducible refine LeO.bind ?_ (fun _ => ?_))
   | exact ih0 _ _
   | exact LeO.none _
   | refine LeO.ite ?_ ?_
   | refine LeO.bind ?_ (fun _ => ?_)
set_option maxHeartbeats 8000000 in
set_option maxRecDepth 100000 in
theorem ratio_gcd.calls (k : Nat) (a0 : Int) (a1 : Int) (r : Int) (w : World) (h : ratio_gcd.f k a0 a1 = some r) :
  Calls Tryz.prog 44 #[.int .u64 a0, .int .u64 a1] w fun e w' => e = .returned (.int .u64 r) ∧ Drawn0 w w' := by
 have H : (ratio_gcd.l0 k a0 a1) = some r := h; clear h; have H' := Aside0.mk H; clear H; (go_enter Tryz.func44, Tryz.ntmps44); (go_wp2); (repeat (go_quiet (fail); try go_wp2)); (try simp only [Act.put, List.setIfInBounds_toArray, List.set_cons_zero, List.set_cons_succ])
 go_loopg [0, 1] k (fun kq v0 v1 w' => ∃ (x0_1 : Int) (x1_1 : Int), v0 = .int .u64 x0_1 ∧ v1 = .int .u64 x1_1 ∧ Aside0 (ratio_gcd.l0 kq x0_1 x1_1 = some r) ∧ Aside0 (kq ≤ k) ∧ Drawn0 w w')
 case atStart => exact ⟨(a0), (a1), (by first | rfl | (simp; done) | (simp [*]; done)), (by first | rfl | (simp; done) | (simp [*]; done)), H', ⟨Nat.le_refl _⟩, by repeat (first | exact Drawn0.refl _ | apply Drawn0.step)⟩
 case round =>
  clear H'; (try clear p2); obtain ⟨x0_1, x1_1, rfl, rfl, HA, HK1, ⟨m1, rfl⟩⟩ := hrel
  cases gk with
  | zero => exact absurd HA.out (by simp [ratio_gcd.l0])
  | succ k1 =>
   have H := HA.out; clear HA; simp only [ratio_gcd.l0] at H
   by_cases c3 : x1_1 = 0
   ·rw [if_pos c3] at H; have c3b0 : (x1_1 == 0) = true := beq_iff_eq.mpr c3; have c3b1 : (x1_1 != 0) = false := bne_eq_false_iff_eq.mpr c3; clear c3; obtain rfl := Option.some.inj H; (go_wp2); (repeat (go_quiet (fail); try go_wp2)); (go_ret); exact ⟨by first | rfl | (simp; done) | (simp [*]; done), by repeat (first | exact Drawn0.refl _ | apply Drawn0.step)⟩
   ·rw [if_neg c3] at H; have c3b0 : (x1_1 == 0) = false := beq_eq_false_iff_ne.mpr c3; have c3b1 : (x1_1 != 0) = true := bne_iff_ne.mpr c3; have H' := Aside0.mk H; clear H; (go_wp2); repeat (go_quiet (fail); try go_wp2)
    go_roundg k1
    case measure => have := HK1.out; omega
    case rel => exact ⟨(x1_1), (Int.tmod x0_1 x1_1), (by first | rfl | (simp; done) | (simp [*]; done)), (by first | rfl | (simp; done) | (simp [*]; done)), H', ⟨by have := HK1.out; omega⟩, by repeat (first | exact Drawn0.refl _ | apply Drawn0.step)⟩

end Go.Proofs.YtbapkiclgkddcaaGreatDoor.G

-- Printed by gp.py (a program of this session's own, over the kit's printer) out of the translation; Lean checks it.
namespace Go.Proofs.YtbapkiclgkddcaaGreatDoor.G
open Go.Proofs.YtbapkiclgkddcaaGreatDoor.Given Go.Proofs.YtbapkiclgkddcaaGreatDoor.Short
open Go.RowKit Go.Proofs.YtbapkiclgkddcaaGreatDoorW.PrintWords Go.Proofs.YtbapkiclgkddcaaGreatDoorW.PrintLast Go.Proofs.YtbapkiclgkddcaaGreatDoorW.PrintMore
attribute [local go_sem] max2_int min2_int max_two min_two max_three min_three max_four min_four   -- for this text's walks alone
set_option linter.unusedVariables false
set_option linter.unusedSimpArgs false

/-! ### bits_LeadingZeros64: function 63 -/
def bits_LeadingZeros64.f (a0 : Int) : Option (Int) := (bits_Len64.f a0).bind fun t312 => (some (wrap64 (64 - t312)))
set_option maxHeartbeats 8000000 in
set_option maxRecDepth 100000 in
theorem bits_LeadingZeros64.calls (a0 : Int) (r : Int) (w : World) (h : bits_LeadingZeros64.f a0 = some r) :
  Calls Tryz.prog 63 #[.int .u64 a0] w fun e w' => e = .returned (.int .i64 r) ∧ Drawn0 w w' := by
 have H : ((bits_Len64.f a0).bind fun t312 => (some (wrap64 (64 - t312)))) = some r := h; clear h; replace H := Option.bind_eq_some_iff.mp H; obtain ⟨t312, A20, H⟩ := H; (try dsimp only at H); have A2 := Aside0.mk A20; clear A20; obtain rfl := Option.some.inj H; (go_enter Tryz.func63, Tryz.ntmps63); (go_wp2_with (first | ((with_reducible refine gate_callee (f := 89) rfl ?_); refine gl (some 4) Tryz.func89 #[.int .u64 a0] ?_; (with_reducible refine (bits_Len64.calls a0 t312 _ A2.out).mono ?_); rintro e w' ⟨rfl, ⟨nd, rfl⟩⟩; refine ⟨_, rfl, ?_⟩))); (go_ret); exact ⟨by first | rfl | (simp; done) | (simp [*]; done), by repeat (first | exact Drawn0.refl _ | apply Drawn0.step)⟩

end Go.Proofs.YtbapkiclgkddcaaGreatDoor.G

-- Printed by gp.py (a program of this session's own, over the kit's printer) out of the translation; Lean checks it.
namespace Go.Proofs.YtbapkiclgkddcaaGreatDoor.G
open Go.Proofs.YtbapkiclgkddcaaGreatDoor.Given Go.Proofs.YtbapkiclgkddcaaGreatDoor.Short
open Go.RowKit Go.Proofs.YtbapkiclgkddcaaGreatDoorW.PrintWords Go.Proofs.YtbapkiclgkddcaaGreatDoorW.PrintLast Go.Proofs.YtbapkiclgkddcaaGreatDoorW.PrintMore
attribute [local go_sem] max2_int min2_int max_two min_two max_three min_three max_four min_four   -- for this text's walks alone
set_option linter.unusedVariables false
set_option linter.unusedSimpArgs false

/-! ### bits_Div64: function 37 -/
mutual
def bits_Div64.j2 : Nat → Int → Int → Int → Int → Int → Int → Int → Int → Option (Int × Int)
 | 0, _, _, _, _, _, _, _, _ => none
 | k + 1, x2, x8, x9, x10, x11, x13, x14, x15 => if x9 = 0 then (none) else (bits_Div64.l1 k x2 x8 x9 x10 x14 x15 (IntKind.u64.wrap ((IntKind.u64.wrap ((IntKind.u64.wrap ((IntKind.u64.wrap (x11 * 4294967296)) + x13)) - (IntKind.u64.wrap (x15 * x2)))) - (IntKind.u64.wrap ((IntKind.u64.wrap (Int.tdiv (IntKind.u64.wrap ((IntKind.u64.wrap ((IntKind.u64.wrap (x11 * 4294967296)) + x13)) - (IntKind.u64.wrap (x15 * x2)))) x9)) * x9)))) (IntKind.u64.wrap ((IntKind.u64.wrap ((IntKind.u64.wrap (x11 * 4294967296)) + x13)) - (IntKind.u64.wrap (x15 * x2)))) (IntKind.u64.wrap (Int.tdiv (IntKind.u64.wrap ((IntKind.u64.wrap ((IntKind.u64.wrap (x11 * 4294967296)) + x13)) - (IntKind.u64.wrap (x15 * x2)))) x9)))
def bits_Div64.l1 : Nat → Int → Int → Int → Int → Int → Int → Int → Int → Int → Option (Int × Int)
 | 0, _, _, _, _, _, _, _, _, _ => none
 | k + 1, x2, x8, x9, x10, x14, x15, x16, x17, x18 => if x18 ≥ 4294967296 then (bits_Div64.j4 k x2 x8 x9 x10 x14 x15 x16 x17 x18 true) else (bits_Div64.j4 k x2 x8 x9 x10 x14 x15 x16 x17 x18 (decide ((IntKind.u64.wrap (x18 * x10)) > (IntKind.u64.wrap ((IntKind.u64.wrap (4294967296 * x16)) + x14)))))
def bits_Div64.j4 : Nat → Int → Int → Int → Int → Int → Int → Int → Int → Int → Bool → Option (Int × Int)
 | 0, _, _, _, _, _, _, _, _, _, _ => none
 | k + 1, x2, x8, x9, x10, x14, x15, x16, x17, x18, x113 => if x113 = true then (if (IntKind.u64.wrap (x16 + x9)) ≥ 4294967296 then (if 0 ≤ x8 then (some (IntKind.u64.wrap ((IntKind.u64.wrap (x15 * 4294967296)) + (IntKind.u64.wrap (x18 - 1))), shr .u64 (IntKind.u64.wrap ((IntKind.u64.wrap ((IntKind.u64.wrap (x17 * 4294967296)) + x14)) - (IntKind.u64.wrap ((IntKind.u64.wrap (x18 - 1)) * x2)))) x8)) else (none)) else (bits_Div64.l1 k x2 x8 x9 x10 x14 x15 (IntKind.u64.wrap (x16 + x9)) x17 (IntKind.u64.wrap (x18 - 1)))) else (if 0 ≤ x8 then (some (IntKind.u64.wrap ((IntKind.u64.wrap (x15 * 4294967296)) + x18), shr .u64 (IntKind.u64.wrap ((IntKind.u64.wrap ((IntKind.u64.wrap (x17 * 4294967296)) + x14)) - (IntKind.u64.wrap (x18 * x2)))) x8)) else (none))
def bits_Div64.l0 : Nat → Int → Int → Int → Int → Int → Int → Int → Int → Int → Option (Int × Int)
 | 0, _, _, _, _, _, _, _, _, _ => none
 | k + 1, x2, x8, x9, x10, x11, x13, x14, x15, x16 => if x15 ≥ 4294967296 then (bits_Div64.j1 k x2 x8 x9 x10 x11 x13 x14 x15 x16 true) else (bits_Div64.j1 k x2 x8 x9 x10 x11 x13 x14 x15 x16 (decide ((IntKind.u64.wrap (x15 * x10)) > (IntKind.u64.wrap ((IntKind.u64.wrap (4294967296 * x16)) + x13)))))
def bits_Div64.j1 : Nat → Int → Int → Int → Int → Int → Int → Int → Int → Int → Bool → Option (Int × Int)
 | 0, _, _, _, _, _, _, _, _, _, _ => none
 | k + 1, x2, x8, x9, x10, x11, x13, x14, x15, x16, x78 => if x78 = true then (if (IntKind.u64.wrap (x16 + x9)) ≥ 4294967296 then (bits_Div64.j2 k x2 x8 x9 x10 x11 x13 x14 (IntKind.u64.wrap (x15 - 1))) else (bits_Div64.l0 k x2 x8 x9 x10 x11 x13 x14 (IntKind.u64.wrap (x15 - 1)) (IntKind.u64.wrap (x16 + x9)))) else (bits_Div64.j2 k x2 x8 x9 x10 x11 x13 x14 x15)
end
def bits_Div64.f (k : Nat) (a0 : Int) (a1 : Int) (a2 : Int) : Option (Int × Int) := if a2 = 0 then (none) else (if a2 ≤ a0 then (none) else (if a0 = 0 then (some (IntKind.u64.wrap (Int.tdiv a1 a2), Int.tmod a1 a2)) else ((bits_LeadingZeros64.f a2).bind fun t313 => (if 0 ≤ (IntKind.u64.wrap (t313)) then (if 0 ≤ (IntKind.u64.wrap (64 - (IntKind.u64.wrap (t313)))) then (if ((shl .u64 a2 (IntKind.u64.wrap (t313))) / 4294967296) = 0 then (none) else (bits_Div64.l0 k (shl .u64 a2 (IntKind.u64.wrap (t313))) (IntKind.u64.wrap (t313)) ((shl .u64 a2 (IntKind.u64.wrap (t313))) / 4294967296) (Go.bits .and .u64 (shl .u64 a2 (IntKind.u64.wrap (t313))) 4294967295) (Go.bits .or .u64 (shl .u64 a0 (IntKind.u64.wrap (t313))) (shr .u64 a1 (IntKind.u64.wrap (64 - (IntKind.u64.wrap (t313)))))) ((shl .u64 a1 (IntKind.u64.wrap (t313))) / 4294967296) (Go.bits .and .u64 (shl .u64 a1 (IntKind.u64.wrap (t313))) 4294967295) (IntKind.u64.wrap (Int.tdiv (Go.bits .or .u64 (shl .u64 a0 (IntKind.u64.wrap (t313))) (shr .u64 a1 (IntKind.u64.wrap (64 - (IntKind.u64.wrap (t313)))))) ((shl .u64 a2 (IntKind.u64.wrap (t313))) / 4294967296))) (IntKind.u64.wrap ((Go.bits .or .u64 (shl .u64 a0 (IntKind.u64.wrap (t313))) (shr .u64 a1 (IntKind.u64.wrap (64 - (IntKind.u64.wrap (t313)))))) - (IntKind.u64.wrap ((IntKind.u64.wrap (Int.tdiv (Go.bits .or .u64 (shl .u64 a0 (IntKind.u64.wrap (t313))) (shr .u64 a1 (IntKind.u64.wrap (64 - (IntKind.u64.wrap (t313)))))) ((shl .u64 a2 (IntKind.u64.wrap (t313))) / 4294967296))) * ((shl .u64 a2 (IntKind.u64.wrap (t313))) / 4294967296))))))) else (none)) else (none)))))
theorem bits_Div64.mono_l : ∀ k, (∀ y0 y1 y2 y3 y4 y5 y6 y7, LeO (bits_Div64.j2 k y0 y1 y2 y3 y4 y5 y6 y7) (bits_Div64.j2 (k + 1) y0 y1 y2 y3 y4 y5 y6 y7)) ∧ (∀ y0 y1 y2 y3 y4 y5 y6 y7 y8, LeO (bits_Div64.l1 k y0 y1 y2 y3 y4 y5 y6 y7 y8) (bits_Div64.l1 (k + 1) y0 y1 y2 y3 y4 y5 y6 y7 y8)) ∧ (∀ y0 y1 y2 y3 y4 y5 y6 y7 y8 y9, LeO (bits_Div64.j4 k y0 y1 y2 y3 y4 y5 y6 y7 y8 y9) (bits_Div64.j4 (k + 1) y0 y1 y2 y3 y4 y5 y6 y7 y8 y9)) ∧ (∀ y0 y1 y2 y3 y4 y5 y6 y7 y8, LeO (bits_Div64.l0 k y0 y1 y2 y3 y4 y5 y6 y7 y8) (bits_Div64.l0 (k + 1) y0 y1 y2 y3 y4 y5 y6 y7 y8)) ∧ (∀ y0 y1 y2 y3 y4 y5 y6 y7 y8 y9, LeO (bits_Div64.j1 k y0 y1 y2 y3 y4 y5 y6 y7 y8 y9) (bits_Div64.j1 (k + 1) y0 y1 y2 y3 y4 y5 y6 y7 y8 y9))
 | 0 => ⟨fun _ _ _ _ _ _ _ _ r h => by simp [bits_Div64.j2] at h, fun _ _ _ _ _ _ _ _ _ r h => by simp [bits_Div64.l1] at h, fun _ _ _ _ _ _ _ _ _ _ r h => by simp [bits_Div64.j4] at h, fun _ _ _ _ _ _ _ _ _ r h => by simp [bits_Div64.l0] at h, fun _ _ _ _ _ _ _ _ _ _ r h => by simp [bits_Div64.j1] at h⟩
 | k + 1 => by
  obtain ⟨ih0, ih1, ih2, ih3, ih4⟩ := bits_Div64.mono_l k; refine ⟨?_, ?_, ?_, ?_, ?_⟩
  ·intro y0 y1 y2 y3 y4 y5 y6 y7; unfold bits_Div64.j2
   repeat' first
   | (with_reducible exact ih0 _ _ _ _ _ _ _ _)
   | (with_reducible exact ih1 _ _ _ _ _ _ _ _ _)
   | (with_reducible exact ih2 _ _ _ _ _ _ _ _ _ _)
   | (with_reducible exact ih3 _ _ _ _ _ _ _ _ _)
   | (with_reducible exact ih4 _ _ _ _ _ _ _ _ _ _)
   | (with_reducible exact LeO.refl _)
   | (with_reducible exact LeO.none _)
   | (with_reducible refine LeO.ite ?_ ?_)
   | (with_reducible refine LeO.bind ?_ (fun _ => ?_))
   | exact ih0 _ _ _ _ _ _ _ _
   | exact ih1 _ _ _ _ _ _ _ _ _
   | exact ih2 _ _ _ _ _ _ _ _ _ _
   | exact ih3 _ _ _ _ _ _ _ _ _
   | exact ih4 _ _ _ _ _ _ _ _ _ _
   | exact LeO.none _
   | refine LeO.ite ?_ ?_
   | refine LeO.bind ?_ (fun _ => ?_)
  ·intro y0 y1 y2 y3 y4 y5 y6 y7 y8; unfold bits_Div64.l1
   repeat' first
   | (with_reducible exact ih0 _ _ _ _ _ _ _ _)
   | (with_reducible exact ih1 _ _ _ _ _ _ _ _ _)
   | (with_reducible exact ih2 _ _ _ _ _ _ _ _ _ _)
   | (with_reducible exact ih3 _ _ _ _ _ _ _ _ _)
   | (with_reducible exact ih4 _ _ _ _ _ _ _ _ _ _)
   | (with_reducible exact LeO.refl _)
   | (with_reducible exact LeO.none _)
   | (with_reducible refine LeO.ite ?_ ?_)
   | (with_reducible refine LeO.bind ?_ (fun _ => ?_))
   | exact ih0 _ _ _ _ _ _ _ _
   | exact ih1 _ _ _ _ _ _ _ _ _
   | exact ih2 _ _ _ _ _ _ _ _ _ _
   | exact ih3 _ _ _ _ _ _ _ _ _
   | exact ih4 _ _ _ _ _ _ _ _ _ _
   | exact LeO.none _
   | refine LeO.ite ?_ ?_
   | refine LeO.bind ?_ (fun _ => ?_)
  ·intro y0 y1 y2 y3 y4 y5 y6 y7 y8 y9; unfold bits_Div64.j4
   repeat' first
   | (with_reducible exact ih0 _ _ _ _ _ _ _ _)
   | (with_reducible exact ih1 _ _ _ _ _ _ _ _ _)
   | (with_reducible exact ih2 _ _ _ _ _ _ _ _ _ _)
   | (with_reducible exact ih3 _ _ _ _ _ _ _ _ _)
   | (with_reducible exact ih4 _ _ _ _ _ _ _ _ _ _)
   | (with_reducible exact LeO.refl _)
   | (with_reducible exact LeO.none _)
   | (with_reducible refine LeO.ite ?_ ?_)
   | (with_reducible refine LeO.bind ?_ (fun _ => ?_))
   | exact ih0 _ _ _ _ _ _ _ _
   | exact ih1 _ _ _ _ _ _ _ _ _
   | exact ih2 _ _ _ _ _ _ _ _ _ _
   | exact ih3 _ _ _ _ _ _ _ _ _
   | exact ih4 _ _ _ _ _ _ _ _ _ _
   | exact LeO.none _
   | refine LeO.ite ?_ ?_
   | refine LeO.bind ?_ (fun _ => ?_)
  ·intro y0 y1 y2 y3 y4 y5 y6 y7 y8; unfold bits_Div64.l0
   repeat' first
   | (with_reducible exact ih0 _ _ _ _ _ _ _ _)
   | (with_reducible exact ih1 _ _ _ _ _ _ _ _ _)
   | (with_reducible exact ih2 _ _ _ _ _ _ _ _ _ _)
   | (with_reducible exact ih3 _ _ _ _ _ _ _ _ _)
   | (with_reducible exact ih4 _ _ _ _ _ _ _ _ _ _)
   | (with_reducible exact LeO.refl _)
   | (with_reducible exact LeO.none _)
   | (with_reducible refine LeO.ite ?_ ?_)
   | (with_reducible refine LeO.bind ?_ (fun _ => ?_))
   | exact ih0 _ _ _ _ _ _ _ _
   | exact ih1 _ _ _ _ _ _ _ _ _
   | exact ih2 _ _ _ _ _ _ _ _ _ _
   | exact ih3 _ _ _ _ _ _ _ _ _
   | exact ih4 _ _ _ _ _ _ _ _ _ _
   | exact LeO.none _
   | refine LeO.ite ?_ ?_
   | refine LeO.bind ?_ (fun _ => ?_)
  ·intro y0 y1 y2 y3 y4 y5 y6 y7 y8 y9; unfold bits_Div64.j1
   repeat' first
   | (with_reducible exact ih0 _ _ _ _ _ _ _ _)
   | (with_reducible exact ih1 _ _ _ _ _ _ _ _ _)
   | (with_reducible exact ih2 _ _ _ _ _ _ _ _ _ _)
   | (with_reducible exact ih3 _ _ _ _ _ _ _ _ _)
   | (with_reducible exact ih4 _ _ _ _ _ _ _ _ _ _)
   | (with_reducible exact LeO.refl _)
   | (with_reducible exact LeO.none _)
   | (with_reducible refine LeO.ite ?_ ?_)
   | (with_reducible refine LeO.bind ?_ (fun _ => ?_))
   | exact ih0 _ _ _ _ _ _ _ _
   | exact ih1 _ _ _ _ _ _ _ _ _
   | exact ih2 _ _ _ _ _ _ _ _ _ _
   | exact ih3 _ _ _ _ _ _ _ _ _
   | exact ih4 _ _ _ _ _ _ _ _ _ _
   | exact LeO.none _
   | refine LeO.ite ?_ ?_
   | refine LeO.bind ?_ (fun _ => ?_)
theorem bits_Div64.mono : ∀ a0 a1 a2 k, LeO (bits_Div64.f k a0 a1 a2) (bits_Div64.f (k + 1) a0 a1 a2) := by
 intro a0 a1 a2 k; obtain ⟨ih0, ih1, ih2, ih3, ih4⟩ := bits_Div64.mono_l k; unfold bits_Div64.f
 repeat' first
   | (with_reducible exact ih0 _ _ _ _ _ _ _ _)
   | (with_reducible exact ih1 _ _ _ _ _ _ _ _ _)
   | (with_reducible exact ih2 _ _ _ _ _ _ _ _ _ _)
   | (with_reducible exact ih3 _ _ _ _ _ _ _ _ _)
   | (with_reducible exact ih4 _ _ _ _ _ _ _ _ _ _)
   | (with_reducible exact LeO.refl _)
   | (with_reducible exact LeO.none _)
   | (with_reducible refine LeO.ite ?_ ?_)
   | (with_reducible refine LeO.bind ?_ (fun _ => ?_))
   | exact ih0 _ _ _ _ _ _ _ _
   | exact ih1 _ _ _ _ _ _ _ _ _
   | exact ih2 _ _ _ _ _ _ _ _ _ _
   | exact ih3 _ _ _ _ _ _ _ _ _
   | exact ih4 _ _ _ _ _ _ _ _ _ _
   | exact LeO.none _
   | refine LeO.ite ?_ ?_
   | refine LeO.bind ?_ (fun _ => ?_)
set_option maxHeartbeats 8000000 in
set_option maxRecDepth 100000 in
theorem bits_Div64.calls (k : Nat) (a0 : Int) (a1 : Int) (a2 : Int) (r1 : Int) (r2 : Int) (w : World) (h : bits_Div64.f k a0 a1 a2 = some (r1, r2)) :
  Calls Tryz.prog 37 #[.int .u64 a0, .int .u64 a1, .int .u64 a2] w fun e w' => e = .returned (.tuple #[.int .u64 r1, .int .u64 r2]) ∧ Drawn0 w w' := by
 have H : (if a2 = 0 then (none) else (if a2 ≤ a0 then (none) else (if a0 = 0 then (some (IntKind.u64.wrap (Int.tdiv a1 a2), Int.tmod a1 a2)) else ((bits_LeadingZeros64.f a2).bind fun t313 => (if 0 ≤ (IntKind.u64.wrap (t313)) then (if 0 ≤ (IntKind.u64.wrap (64 - (IntKind.u64.wrap (t313)))) then (if ((shl .u64 a2 (IntKind.u64.wrap (t313))) / 4294967296) = 0 then (none) else (bits_Div64.l0 k (shl .u64 a2 (IntKind.u64.wrap (t313))) (IntKind.u64.wrap (t313)) ((shl .u64 a2 (IntKind.u64.wrap (t313))) / 4294967296) (Go.bits .and .u64 (shl .u64 a2 (IntKind.u64.wrap (t313))) 4294967295) (Go.bits .or .u64 (shl .u64 a0 (IntKind.u64.wrap (t313))) (shr .u64 a1 (IntKind.u64.wrap (64 - (IntKind.u64.wrap (t313)))))) ((shl .u64 a1 (IntKind.u64.wrap (t313))) / 4294967296) (Go.bits .and .u64 (shl .u64 a1 (IntKind.u64.wrap (t313))) 4294967295) (IntKind.u64.wrap (Int.tdiv (Go.bits .or .u64 (shl .u64 a0 (IntKind.u64.wrap (t313))) (shr .u64 a1 (IntKind.u64.wrap (64 - (IntKind.u64.wrap (t313)))))) ((shl .u64 a2 (IntKind.u64.wrap (t313))) / 4294967296))) (IntKind.u64.wrap ((Go.bits .or .u64 (shl .u64 a0 (IntKind.u64.wrap (t313))) (shr .u64 a1 (IntKind.u64.wrap (64 - (IntKind.u64.wrap (t313)))))) - (IntKind.u64.wrap ((IntKind.u64.wrap (Int.tdiv (Go.bits .or .u64 (shl .u64 a0 (IntKind.u64.wrap (t313))) (shr .u64 a1 (IntKind.u64.wrap (64 - (IntKind.u64.wrap (t313)))))) ((shl .u64 a2 (IntKind.u64.wrap (t313))) / 4294967296))) * ((shl .u64 a2 (IntKind.u64.wrap (t313))) / 4294967296))))))) else (none)) else (none)))))) = some (r1, r2) := h; clear h
 by_cases c4 : a2 = 0
 ·rw [if_pos c4] at H; exact absurd H (by simp)
 ·rw [if_neg c4] at H; have c4b0 : (a2 == 0) = false := beq_eq_false_iff_ne.mpr c4; have c4b1 : (a2 != 0) = true := bne_iff_ne.mpr c4
  by_cases c5 : a2 ≤ a0
  ·rw [if_pos c5] at H; exact absurd H (by simp)
  ·rw [if_neg c5] at H; have c5b0 : decide (a2 ≤ a0) = false := decide_eq_false c5; clear c5
   by_cases c6 : a0 = 0
   ·rw [if_pos c6] at H; have c6b0 : (a0 == 0) = true := beq_iff_eq.mpr c6; have c6b1 : (a0 != 0) = false := bne_eq_false_iff_eq.mpr c6; clear c6; simp only [Option.some.injEq, Prod.mk.injEq] at H; obtain ⟨rfl, rfl⟩ := H; (go_enter Tryz.func37, Tryz.ntmps37); (go_wp2); repeat (go_quiet (fail); try go_wp2)
    go_ret2
    exact ⟨by first | rfl | (simp; done) | (simp [*]; done), by repeat (first | exact Drawn0.refl _ | apply Drawn0.step)⟩
   ·rw [if_neg c6] at H; have c6b0 : (a0 == 0) = false := beq_eq_false_iff_ne.mpr c6; have c6b1 : (a0 != 0) = true := bne_iff_ne.mpr c6; replace H := Option.bind_eq_some_iff.mp H; obtain ⟨t313, A70, H⟩ := H; (try dsimp only at H); have A7 := Aside0.mk A70; clear A70; obtain ⟨ji8, hji8⟩ : ∃ j_ : Int, (IntKind.u64.wrap (t313)) = j_ := ⟨_, rfl⟩; (replace H : (if 0 ≤ (ji8) then (if 0 ≤ (IntKind.u64.wrap (64 - (ji8))) then (if ((shl .u64 a2 (ji8)) / 4294967296) = 0 then (none) else (bits_Div64.l0 k (shl .u64 a2 (ji8)) ji8 ((shl .u64 a2 (ji8)) / 4294967296) (Go.bits .and .u64 (shl .u64 a2 (ji8)) 4294967295) (Go.bits .or .u64 (shl .u64 a0 (ji8)) (shr .u64 a1 (IntKind.u64.wrap (64 - (ji8))))) ((shl .u64 a1 (ji8)) / 4294967296) (Go.bits .and .u64 (shl .u64 a1 (ji8)) 4294967295) (IntKind.u64.wrap (Int.tdiv (Go.bits .or .u64 (shl .u64 a0 (ji8)) (shr .u64 a1 (IntKind.u64.wrap (64 - (ji8))))) ((shl .u64 a2 (ji8)) / 4294967296))) (IntKind.u64.wrap ((Go.bits .or .u64 (shl .u64 a0 (ji8)) (shr .u64 a1 (IntKind.u64.wrap (64 - (ji8))))) - (IntKind.u64.wrap ((IntKind.u64.wrap (Int.tdiv (Go.bits .or .u64 (shl .u64 a0 (ji8)) (shr .u64 a1 (IntKind.u64.wrap (64 - (ji8))))) ((shl .u64 a2 (ji8)) / 4294967296))) * ((shl .u64 a2 (ji8)) / 4294967296))))))) else (none)) else (none)) = some (r1, r2) := by first | (rw [hji8] at H; exact H) | (simp only [hji8] at H ⊢; exact H)); (try rw [hji8] at A7)
    by_cases c9 : 0 ≤ (ji8)
    ·rw [if_pos c9] at H; have c9b0 := eq_true c9; have c9b1 : decide (0 ≤ (ji8)) = true := decide_eq_true c9; clear c9; obtain ⟨ji10, hji10⟩ : ∃ j_ : Int, (shl .u64 a2 (ji8)) = j_ := ⟨_, rfl⟩; (replace H : (if 0 ≤ (IntKind.u64.wrap (64 - (ji8))) then (if ((ji10) / 4294967296) = 0 then (none) else (bits_Div64.l0 k ji10 ji8 ((ji10) / 4294967296) (Go.bits .and .u64 (ji10) 4294967295) (Go.bits .or .u64 (shl .u64 a0 (ji8)) (shr .u64 a1 (IntKind.u64.wrap (64 - (ji8))))) ((shl .u64 a1 (ji8)) / 4294967296) (Go.bits .and .u64 (shl .u64 a1 (ji8)) 4294967295) (IntKind.u64.wrap (Int.tdiv (Go.bits .or .u64 (shl .u64 a0 (ji8)) (shr .u64 a1 (IntKind.u64.wrap (64 - (ji8))))) ((ji10) / 4294967296))) (IntKind.u64.wrap ((Go.bits .or .u64 (shl .u64 a0 (ji8)) (shr .u64 a1 (IntKind.u64.wrap (64 - (ji8))))) - (IntKind.u64.wrap ((IntKind.u64.wrap (Int.tdiv (Go.bits .or .u64 (shl .u64 a0 (ji8)) (shr .u64 a1 (IntKind.u64.wrap (64 - (ji8))))) ((ji10) / 4294967296))) * ((ji10) / 4294967296))))))) else (none)) = some (r1, r2) := by first | (rw [hji10] at H; exact H) | (simp only [hji10] at H ⊢; exact H)); (try rw [hji10] at A7); have hji10_ : (IntKind.u64.wrap (a2 * 2 ^ min (ji8).toNat 64)) = ji10 := hji10; have hji10z : (ji8) ≤ 64 → (IntKind.u64.wrap (a2 * 2 ^ (ji8).toNat)) = ji10 := shl_small hji10; have c11b0 := eq_true (of_decide_eq_true (by first | (with_reducible assumption) | assumption) : 0 ≤ (ji8)); obtain ⟨ji12, hji12⟩ : ∃ j_ : Int, (shl .u64 a0 (ji8)) = j_ := ⟨_, rfl⟩; (replace H : (if 0 ≤ (IntKind.u64.wrap (64 - (ji8))) then (if ((ji10) / 4294967296) = 0 then (none) else (bits_Div64.l0 k ji10 ji8 ((ji10) / 4294967296) (Go.bits .and .u64 (ji10) 4294967295) (Go.bits .or .u64 (ji12) (shr .u64 a1 (IntKind.u64.wrap (64 - (ji8))))) ((shl .u64 a1 (ji8)) / 4294967296) (Go.bits .and .u64 (shl .u64 a1 (ji8)) 4294967295) (IntKind.u64.wrap (Int.tdiv (Go.bits .or .u64 (ji12) (shr .u64 a1 (IntKind.u64.wrap (64 - (ji8))))) ((ji10) / 4294967296))) (IntKind.u64.wrap ((Go.bits .or .u64 (ji12) (shr .u64 a1 (IntKind.u64.wrap (64 - (ji8))))) - (IntKind.u64.wrap ((IntKind.u64.wrap (Int.tdiv (Go.bits .or .u64 (ji12) (shr .u64 a1 (IntKind.u64.wrap (64 - (ji8))))) ((ji10) / 4294967296))) * ((ji10) / 4294967296))))))) else (none)) = some (r1, r2) := by first | (rw [hji12] at H; exact H) | (simp only [hji12] at H ⊢; exact H)); (try rw [hji12] at A7); have hji12_ : (IntKind.u64.wrap (a0 * 2 ^ min (ji8).toNat 64)) = ji12 := hji12; have hji12z : (ji8) ≤ 64 → (IntKind.u64.wrap (a0 * 2 ^ (ji8).toNat)) = ji12 := shl_small hji12; obtain ⟨ji13, hji13⟩ : ∃ j_ : Int, (IntKind.u64.wrap (64 - (ji8))) = j_ := ⟨_, rfl⟩; (replace H : (if 0 ≤ (ji13) then (if ((ji10) / 4294967296) = 0 then (none) else (bits_Div64.l0 k ji10 ji8 ((ji10) / 4294967296) (Go.bits .and .u64 (ji10) 4294967295) (Go.bits .or .u64 (ji12) (shr .u64 a1 (ji13))) ((shl .u64 a1 (ji8)) / 4294967296) (Go.bits .and .u64 (shl .u64 a1 (ji8)) 4294967295) (IntKind.u64.wrap (Int.tdiv (Go.bits .or .u64 (ji12) (shr .u64 a1 (ji13))) ((ji10) / 4294967296))) (IntKind.u64.wrap ((Go.bits .or .u64 (ji12) (shr .u64 a1 (ji13))) - (IntKind.u64.wrap ((IntKind.u64.wrap (Int.tdiv (Go.bits .or .u64 (ji12) (shr .u64 a1 (ji13))) ((ji10) / 4294967296))) * ((ji10) / 4294967296))))))) else (none)) = some (r1, r2) := by first | (rw [hji13] at H; exact H) | (simp only [hji13] at H ⊢; exact H)); (try rw [hji13] at A7)
     by_cases c14 : 0 ≤ (ji13)
     ·rw [if_pos c14] at H; have c14b0 := eq_true c14; have c14b1 : decide (0 ≤ (ji13)) = true := decide_eq_true c14; clear c14; obtain ⟨ji15, hji15⟩ : ∃ j_ : Int, (shr .u64 a1 (ji13)) = j_ := ⟨_, rfl⟩; (replace H : (if ((ji10) / 4294967296) = 0 then (none) else (bits_Div64.l0 k ji10 ji8 ((ji10) / 4294967296) (Go.bits .and .u64 (ji10) 4294967295) (Go.bits .or .u64 (ji12) (ji15)) ((shl .u64 a1 (ji8)) / 4294967296) (Go.bits .and .u64 (shl .u64 a1 (ji8)) 4294967295) (IntKind.u64.wrap (Int.tdiv (Go.bits .or .u64 (ji12) (ji15)) ((ji10) / 4294967296))) (IntKind.u64.wrap ((Go.bits .or .u64 (ji12) (ji15)) - (IntKind.u64.wrap ((IntKind.u64.wrap (Int.tdiv (Go.bits .or .u64 (ji12) (ji15)) ((ji10) / 4294967296))) * ((ji10) / 4294967296))))))) = some (r1, r2) := by first | (rw [hji15] at H; exact H) | (simp only [hji15] at H ⊢; exact H)); (try rw [hji15] at A7); have hji15_ : (a1 / 2 ^ min (ji13).toNat 64) = ji15 := hji15; have hji15z : (ji13) ≤ 64 → (a1 / 2 ^ (ji13).toNat) = ji15 := shr_small hji15; have c16b0 := eq_true (of_decide_eq_true (by first | (with_reducible assumption) | assumption) : 0 ≤ (ji8)); obtain ⟨ji17, hji17⟩ : ∃ j_ : Int, (shl .u64 a1 (ji8)) = j_ := ⟨_, rfl⟩; (replace H : (if ((ji10) / 4294967296) = 0 then (none) else (bits_Div64.l0 k ji10 ji8 ((ji10) / 4294967296) (Go.bits .and .u64 (ji10) 4294967295) (Go.bits .or .u64 (ji12) (ji15)) ((ji17) / 4294967296) (Go.bits .and .u64 (ji17) 4294967295) (IntKind.u64.wrap (Int.tdiv (Go.bits .or .u64 (ji12) (ji15)) ((ji10) / 4294967296))) (IntKind.u64.wrap ((Go.bits .or .u64 (ji12) (ji15)) - (IntKind.u64.wrap ((IntKind.u64.wrap (Int.tdiv (Go.bits .or .u64 (ji12) (ji15)) ((ji10) / 4294967296))) * ((ji10) / 4294967296))))))) = some (r1, r2) := by first | (rw [hji17] at H; exact H) | (simp only [hji17] at H ⊢; exact H)); (try rw [hji17] at A7); have hji17_ : (IntKind.u64.wrap (a1 * 2 ^ min (ji8).toNat 64)) = ji17 := hji17; have hji17z : (ji8) ≤ 64 → (IntKind.u64.wrap (a1 * 2 ^ (ji8).toNat)) = ji17 := shl_small hji17
      by_cases c18 : ((ji10) / 4294967296) = 0
      ·rw [if_pos c18] at H; exact absurd H (by simp)
      ·rw [if_neg c18] at H; have c18b0 : (((ji10) / 4294967296) == 0) = false := beq_eq_false_iff_ne.mpr c18; have c18b1 : (((ji10) / 4294967296) != 0) = true := bne_iff_ne.mpr c18; have HC19 := Aside0.mk H; clear H; go_enter Tryz.func37, Tryz.ntmps37
       go_upto_block 0 with (first | (go_at_call 63; (with_reducible refine (bits_LeadingZeros64.calls a2 t313 _ A7.out).mono ?_); rintro e w' ⟨rfl, ⟨nd, rfl⟩⟩; (try first | exact ⟨rfl, _, World.drewN_drewN _ _ _⟩ | exact ⟨rfl, _, Eq.trans (World.drewN_drewN _ _ _) (congrArg (World.drewN _) (Nat.add_assoc _ _ _))⟩)))
       (repeat (go_quiet (first | (go_at_call 63; (with_reducible refine (bits_LeadingZeros64.calls a2 t313 _ A7.out).mono ?_); rintro e w' ⟨rfl, ⟨nd, rfl⟩⟩; (try first | exact ⟨rfl, _, World.drewN_drewN _ _ _⟩ | exact ⟨rfl, _, Eq.trans (World.drewN_drewN _ _ _) (congrArg (World.drewN _) (Nat.add_assoc _ _ _))⟩))); go_upto_block 0 with (first | (go_at_call 63; (with_reducible refine (bits_LeadingZeros64.calls a2 t313 _ A7.out).mono ?_); rintro e w' ⟨rfl, ⟨nd, rfl⟩⟩; (try first | exact ⟨rfl, _, World.drewN_drewN _ _ _⟩ | exact ⟨rfl, _, Eq.trans (World.drewN_drewN _ _ _) (congrArg (World.drewN _) (Nat.add_assoc _ _ _))⟩))))); (try simp only [Act.put, List.setIfInBounds_toArray, List.set_cons_zero, List.set_cons_succ])
       go_cut [15] (fun v15 wc => ∃ (kq : Nat) (x15_18 : Int), v15 = .int .u64 x15_18 ∧ Aside0 (bits_Div64.j2 kq ji10 ji8 ((ji10) / 4294967296) (Go.bits .and .u64 (ji10) 4294967295) (Go.bits .or .u64 (ji12) (ji15)) ((ji17) / 4294967296) (Go.bits .and .u64 (ji17) 4294967295) x15_18 = some (r1, r2)) ∧ Aside0 (kq ≤ k) ∧ Drawn0 w wc)
       case first =>
        have H := HC19.out; clear HC19; have H' := Aside0.mk H; clear H; (go_wp2); (repeat (go_quiet (fail); try go_wp2)); (try simp only [Act.put, List.setIfInBounds_toArray, List.set_cons_zero, List.set_cons_succ])
        go_loopg [15, 16] k (fun kq v15 v16 w' => ∃ (x15_1 : Int) (x16_1 : Int), v15 = .int .u64 x15_1 ∧ v16 = .int .u64 x16_1 ∧ Aside0 (bits_Div64.l0 kq ji10 ji8 ((ji10) / 4294967296) (Go.bits .and .u64 (ji10) 4294967295) (Go.bits .or .u64 (ji12) (ji15)) ((ji17) / 4294967296) (Go.bits .and .u64 (ji17) 4294967295) x15_1 x16_1 = some (r1, r2)) ∧ Aside0 (kq ≤ k) ∧ Drawn0 w w')
        case atStart => exact ⟨(IntKind.u64.wrap (Int.tdiv (Go.bits .or .u64 (ji12) (ji15)) ((ji10) / 4294967296))), (IntKind.u64.wrap ((Go.bits .or .u64 (ji12) (ji15)) - (IntKind.u64.wrap ((IntKind.u64.wrap (Int.tdiv (Go.bits .or .u64 (ji12) (ji15)) ((ji10) / 4294967296))) * ((ji10) / 4294967296))))), (by first | rfl | (simp; done) | (simp only [← hji10, ← hji12, ← hji15] <;> (first | rfl | simp)) | (simp [*]; done)), (by first | rfl | (simp; done) | (simp only [← hji10, ← hji12, ← hji15] <;> (first | rfl | simp)) | (simp [*]; done)), H', ⟨Nat.le_refl _⟩, by repeat (first | exact Drawn0.refl _ | apply Drawn0.step)⟩
        case round =>
         clear H'; (try clear c1); (try clear p2); (try clear c3); (try clear c4); (try clear c4b0); (try clear c4b1); (try clear c5); (try clear c5b0); (try clear c6); (try clear c6b0); (try clear c6b1); (try clear c9); (try clear c9b0); (try clear c9b1); (try clear c11); (try clear c11b0); (try clear c14); (try clear c14b0); (try clear c14b1); (try clear c16); (try clear c16b0); (try clear c18); (try clear c18b0); (try clear c18b1); obtain ⟨x15_1, x16_1, rfl, rfl, HA, HK1, ⟨m1, rfl⟩⟩ := hrel
         cases gk with
         | zero => exact absurd HA.out (by simp [bits_Div64.l0])
         | succ k1 =>
          have H := HA.out; clear HA; simp only [bits_Div64.l0] at H; have HC20 := Aside0.mk H; clear H
          go_upto_region 17 with (fail)
          repeat (go_quiet (fail); go_upto_region 17 with (fail))
          go_cut [78] (fun v78 wc => ∃ (kq : Nat) (x78_19 : Bool), v78 = .bool x78_19 ∧ Aside0 (bits_Div64.j1 kq ji10 ji8 ((ji10) / 4294967296) (Go.bits .and .u64 (ji10) 4294967295) (Go.bits .or .u64 (ji12) (ji15)) ((ji17) / 4294967296) (Go.bits .and .u64 (ji17) 4294967295) x15_1 x16_1 x78_19 = some (r1, r2)) ∧ Aside0 (kq ≤ k1) ∧ Drawn0 w wc)
          case first =>
           have H := HC20.out; clear HC20
           by_cases c21 : x15_1 ≥ 4294967296
           ·rw [if_pos c21] at H; have c21b0 : decide (4294967296 ≤ x15_1) = true := decide_eq_true c21; clear c21
            (first | rw [c21b0] | (simp only [i64_w, i32_w]; rw [c21b0]) | skip)
            have H' := Aside0.mk H; clear H; (go_wp2); repeat (go_quiet (fail); try go_wp2)
            go_meet
            case rel => exact ⟨_, (true), (by first | rfl | (simp; done) | (simp [*]; done)), H', ⟨by have := HK1.out; first | omega | exact Nat.le_refl _⟩, by repeat (first | exact Drawn0.refl _ | apply Drawn0.step)⟩
           ·rw [if_neg c21] at H; have c21b0 : decide (4294967296 ≤ x15_1) = false := decide_eq_false c21; clear c21
            (first | rw [c21b0] | (simp only [i64_w, i32_w]; rw [c21b0]) | skip)
            have H' := Aside0.mk H; clear H; (go_wp2); repeat (go_quiet (fail); try go_wp2)
            go_meet
            case rel => exact ⟨_, (decide ((IntKind.u64.wrap (x15_1 * (Go.bits .and .u64 (ji10) 4294967295))) > (IntKind.u64.wrap ((IntKind.u64.wrap (4294967296 * x16_1)) + ((ji17) / 4294967296))))), (by first | rfl | (simp; done) | (simp only [← hji10, ← hji17] <;> (first | rfl | simp)) | (simp [*]; done)), H', ⟨by have := HK1.out; first | omega | exact Nat.le_refl _⟩, by repeat (first | exact Drawn0.refl _ | apply Drawn0.step)⟩
          case rest =>
           clear HC20; (try clear c1); (try clear c2); (try clear p2); (try clear c3); (try clear c4); (try clear c4b0); (try clear c4b1); (try clear c5); (try clear c5b0); (try clear c6); (try clear c6b0); (try clear c6b1); (try clear c9); (try clear c9b0); (try clear c9b1); (try clear c11); (try clear c11b0); (try clear c14); (try clear c14b0); (try clear c14b1); (try clear c16); (try clear c16b0); (try clear c18); (try clear c18b0); (try clear c18b1); (try clear c21); (try clear c21b0); (try clear p2); obtain ⟨kq, x78_19, rfl, HA, HJ19, ⟨mc19, rfl⟩⟩ := hcut
           cases kq with
           | zero => exact absurd HA.out (by simp [bits_Div64.j1])
           | succ kj19 =>
            have H := HA.out; clear HA; simp only [bits_Div64.j1] at H
            by_cases c22 : x78_19 = true
            ·subst c22; (have H1 : (if (IntKind.u64.wrap (x16_1 + ((ji10) / 4294967296))) ≥ 4294967296 then (bits_Div64.j2 kj19 ji10 ji8 ((ji10) / 4294967296) (Go.bits .and .u64 (ji10) 4294967295) (Go.bits .or .u64 (ji12) (ji15)) ((ji17) / 4294967296) (Go.bits .and .u64 (ji17) 4294967295) (IntKind.u64.wrap (x15_1 - 1))) else (bits_Div64.l0 kj19 ji10 ji8 ((ji10) / 4294967296) (Go.bits .and .u64 (ji10) 4294967295) (Go.bits .or .u64 (ji12) (ji15)) ((ji17) / 4294967296) (Go.bits .and .u64 (ji17) 4294967295) (IntKind.u64.wrap (x15_1 - 1)) (IntKind.u64.wrap (x16_1 + ((ji10) / 4294967296))))) = some (r1, r2) := by rw [if_pos rfl] at H; exact H); clear H; have H := H1; clear H1
             by_cases c23 : (IntKind.u64.wrap (x16_1 + ((ji10) / 4294967296))) ≥ 4294967296
             ·rw [if_pos c23] at H; have c23b0 : decide (4294967296 ≤ (IntKind.u64.wrap (x16_1 + ((ji10) / 4294967296)))) = true := decide_eq_true c23; clear c23; have H' := Aside0.mk H; clear H; (go_wp2); repeat (go_quiet (fail); try go_wp2)
              go_meet
              case rel => exact ⟨_, (IntKind.u64.wrap (x15_1 - 1)), (by first | rfl | (simp; done) | (simp [*]; done)), H', ⟨by have := HK1.out; have := HJ19.out; first | omega | exact Nat.le_refl _⟩, by repeat (first | exact Drawn0.refl _ | apply Drawn0.step)⟩
             ·rw [if_neg c23] at H; have c23b0 : decide (4294967296 ≤ (IntKind.u64.wrap (x16_1 + ((ji10) / 4294967296)))) = false := decide_eq_false c23; clear c23; have H' := Aside0.mk H; clear H; (go_wp2); repeat (go_quiet (fail); try go_wp2)
              go_roundg kj19
              case measure => have := HK1.out; have := HJ19.out; omega
              case rel => exact ⟨(IntKind.u64.wrap (x15_1 - 1)), (IntKind.u64.wrap (x16_1 + ((ji10) / 4294967296))), (by first | rfl | (simp; done) | (simp [*]; done)), (by first | rfl | (simp; done) | (simp only [← hji10] <;> (first | rfl | simp)) | (simp [*]; done)), H', ⟨by have := HK1.out; have := HJ19.out; omega⟩, by repeat (first | exact Drawn0.refl _ | apply Drawn0.step)⟩
            ·replace c22 := Bool.eq_false_iff.mpr c22; subst c22; (have H1 : (bits_Div64.j2 kj19 ji10 ji8 ((ji10) / 4294967296) (Go.bits .and .u64 (ji10) 4294967295) (Go.bits .or .u64 (ji12) (ji15)) ((ji17) / 4294967296) (Go.bits .and .u64 (ji17) 4294967295) x15_1) = some (r1, r2) := by rw [if_neg (show ¬ (false = true) by decide)] at H; exact H); clear H; have H := H1; clear H1; have H' := Aside0.mk H; clear H; (go_wp2); repeat (go_quiet (fail); try go_wp2)
             go_meet
             case rel => exact ⟨_, (x15_1), (by first | rfl | (simp; done) | (simp [*]; done)), H', ⟨by have := HK1.out; have := HJ19.out; first | omega | exact Nat.le_refl _⟩, by repeat (first | exact Drawn0.refl _ | apply Drawn0.step)⟩
       case rest =>
        clear HC19; (try clear c1); (try clear c2); (try clear p2); (try clear c3); (try clear c4); (try clear c4b0); (try clear c4b1); (try clear c5); (try clear c5b0); (try clear c6); (try clear c6b0); (try clear c6b1); (try clear c9); (try clear c9b0); (try clear c9b1); (try clear c11); (try clear c11b0); (try clear c14); (try clear c14b0); (try clear c14b1); (try clear c16); (try clear c16b0); (try clear c18); (try clear c18b0); (try clear c18b1); (try clear c19); (try clear c21); (try clear c21b0); (try clear c22); (try clear c23); (try clear c23b0); (try clear p2); obtain ⟨kq, x15_18, rfl, HA, HJ18, ⟨mc18, rfl⟩⟩ := hcut
        cases kq with
        | zero => exact absurd HA.out (by simp [bits_Div64.j2])
        | succ kj18 =>
         have H := HA.out; clear HA; simp only [bits_Div64.j2] at H
         by_cases c24 : ((ji10) / 4294967296) = 0
         ·rw [if_pos c24] at H; exact absurd H (by simp)
         ·rw [if_neg c24] at H; have c24b0 : (((ji10) / 4294967296) == 0) = false := beq_eq_false_iff_ne.mpr c24; have c24b1 : (((ji10) / 4294967296) != 0) = true := bne_iff_ne.mpr c24; have H' := Aside0.mk H; clear H; (go_wp2); (repeat (go_quiet (fail); try go_wp2)); (try simp only [Act.put, List.setIfInBounds_toArray, List.set_cons_zero, List.set_cons_succ])
          go_loopg [16, 18] kj18 (fun kq v16 v18 w' => ∃ (x16_2 : Int) (x18_2 : Int), v16 = .int .u64 x16_2 ∧ v18 = .int .u64 x18_2 ∧ Aside0 (bits_Div64.l1 kq ji10 ji8 ((ji10) / 4294967296) (Go.bits .and .u64 (ji10) 4294967295) (Go.bits .and .u64 (ji17) 4294967295) x15_18 x16_2 (IntKind.u64.wrap ((IntKind.u64.wrap ((IntKind.u64.wrap ((Go.bits .or .u64 (ji12) (ji15)) * 4294967296)) + ((ji17) / 4294967296))) - (IntKind.u64.wrap (x15_18 * ji10)))) x18_2 = some (r1, r2)) ∧ Aside0 (kq ≤ kj18) ∧ Drawn0 w w')
          case atStart => exact ⟨(IntKind.u64.wrap ((IntKind.u64.wrap ((IntKind.u64.wrap ((IntKind.u64.wrap ((Go.bits .or .u64 (ji12) (ji15)) * 4294967296)) + ((ji17) / 4294967296))) - (IntKind.u64.wrap (x15_18 * ji10)))) - (IntKind.u64.wrap ((IntKind.u64.wrap (Int.tdiv (IntKind.u64.wrap ((IntKind.u64.wrap ((IntKind.u64.wrap ((Go.bits .or .u64 (ji12) (ji15)) * 4294967296)) + ((ji17) / 4294967296))) - (IntKind.u64.wrap (x15_18 * ji10)))) ((ji10) / 4294967296))) * ((ji10) / 4294967296))))), (IntKind.u64.wrap (Int.tdiv (IntKind.u64.wrap ((IntKind.u64.wrap ((IntKind.u64.wrap ((Go.bits .or .u64 (ji12) (ji15)) * 4294967296)) + ((ji17) / 4294967296))) - (IntKind.u64.wrap (x15_18 * ji10)))) ((ji10) / 4294967296))), (by first | rfl | (simp; done) | (simp only [← hji10, ← hji12, ← hji15, ← hji17] <;> (first | rfl | simp)) | (simp [*]; done)), (by first | rfl | (simp; done) | (simp only [← hji10, ← hji12, ← hji15, ← hji17] <;> (first | rfl | simp)) | (simp [*]; done)), H', ⟨Nat.le_refl _⟩, by repeat (first | exact Drawn0.refl _ | apply Drawn0.step)⟩
          case round =>
           clear H'; (try clear c1); (try clear c2); (try clear p2); (try clear c3); (try clear c4); (try clear c4b0); (try clear c4b1); (try clear c5); (try clear c5b0); (try clear c6); (try clear c6b0); (try clear c6b1); (try clear c9); (try clear c9b0); (try clear c9b1); (try clear c11); (try clear c11b0); (try clear c14); (try clear c14b0); (try clear c14b1); (try clear c16); (try clear c16b0); (try clear c18); (try clear c18b0); (try clear c18b1); (try clear c19); (try clear c21); (try clear c21b0); (try clear c22); (try clear c23); (try clear c23b0); (try clear c24); (try clear c24b0); (try clear c24b1); (try clear p2); obtain ⟨x16_2, x18_2, rfl, rfl, HA, HK2, ⟨m2, rfl⟩⟩ := hrel
           cases gk with
           | zero => exact absurd HA.out (by simp [bits_Div64.l1])
           | succ k2 =>
            have H := HA.out; clear HA; simp only [bits_Div64.l1] at H; have HC25 := Aside0.mk H; clear H
            go_upto_region 24 with (fail)
            repeat (go_quiet (fail); go_upto_region 24 with (fail))
            go_cut [113] (fun v113 wc => ∃ (kq : Nat) (x113_24 : Bool), v113 = .bool x113_24 ∧ Aside0 (bits_Div64.j4 kq ji10 ji8 ((ji10) / 4294967296) (Go.bits .and .u64 (ji10) 4294967295) (Go.bits .and .u64 (ji17) 4294967295) x15_18 x16_2 (IntKind.u64.wrap ((IntKind.u64.wrap ((IntKind.u64.wrap ((Go.bits .or .u64 (ji12) (ji15)) * 4294967296)) + ((ji17) / 4294967296))) - (IntKind.u64.wrap (x15_18 * ji10)))) x18_2 x113_24 = some (r1, r2)) ∧ Aside0 (kq ≤ k2) ∧ Drawn0 w wc)
            case first =>
             have H := HC25.out; clear HC25
             by_cases c26 : x18_2 ≥ 4294967296
             ·rw [if_pos c26] at H; have c26b0 : decide (4294967296 ≤ x18_2) = true := decide_eq_true c26; clear c26
              (first | rw [c26b0] | (simp only [i64_w, i32_w]; rw [c26b0]) | skip)
              have H' := Aside0.mk H; clear H; (go_wp2); repeat (go_quiet (fail); try go_wp2)
              go_meet
              case rel => exact ⟨_, (true), (by first | rfl | (simp; done) | (simp [*]; done)), H', ⟨by have := HJ18.out; have := HK2.out; first | omega | exact Nat.le_refl _⟩, by repeat (first | exact Drawn0.refl _ | apply Drawn0.step)⟩
             ·rw [if_neg c26] at H; have c26b0 : decide (4294967296 ≤ x18_2) = false := decide_eq_false c26; clear c26
              (first | rw [c26b0] | (simp only [i64_w, i32_w]; rw [c26b0]) | skip)
              have H' := Aside0.mk H; clear H; (go_wp2); repeat (go_quiet (fail); try go_wp2)
              go_meet
              case rel => exact ⟨_, (decide ((IntKind.u64.wrap (x18_2 * (Go.bits .and .u64 (ji10) 4294967295))) > (IntKind.u64.wrap ((IntKind.u64.wrap (4294967296 * x16_2)) + (Go.bits .and .u64 (ji17) 4294967295))))), (by first | rfl | (simp; done) | (simp only [← hji10, ← hji17] <;> (first | rfl | simp)) | (simp [*]; done)), H', ⟨by have := HJ18.out; have := HK2.out; first | omega | exact Nat.le_refl _⟩, by repeat (first | exact Drawn0.refl _ | apply Drawn0.step)⟩
            case rest =>
             clear HC25; (try clear c1); (try clear c2); (try clear p2); (try clear c3); (try clear c4); (try clear c4b0); (try clear c4b1); (try clear c5); (try clear c5b0); (try clear c6); (try clear c6b0); (try clear c6b1); (try clear c9); (try clear c9b0); (try clear c9b1); (try clear c11); (try clear c11b0); (try clear c14); (try clear c14b0); (try clear c14b1); (try clear c16); (try clear c16b0); (try clear c18); (try clear c18b0); (try clear c18b1); (try clear c19); (try clear c21); (try clear c21b0); (try clear c22); (try clear c23); (try clear c23b0); (try clear c24); (try clear c24b0); (try clear c24b1); (try clear c26); (try clear c26b0); (try clear p2); obtain ⟨kq, x113_24, rfl, HA, HJ24, ⟨mc24, rfl⟩⟩ := hcut
             cases kq with
             | zero => exact absurd HA.out (by simp [bits_Div64.j4])
             | succ kj24 =>
              have H := HA.out; clear HA; simp only [bits_Div64.j4] at H
              by_cases c27 : x113_24 = true
              ·subst c27; (have H1 : (if (IntKind.u64.wrap (x16_2 + ((ji10) / 4294967296))) ≥ 4294967296 then (if 0 ≤ ji8 then (some (IntKind.u64.wrap ((IntKind.u64.wrap (x15_18 * 4294967296)) + (IntKind.u64.wrap (x18_2 - 1))), shr .u64 (IntKind.u64.wrap ((IntKind.u64.wrap ((IntKind.u64.wrap ((IntKind.u64.wrap ((IntKind.u64.wrap ((IntKind.u64.wrap ((Go.bits .or .u64 (ji12) (ji15)) * 4294967296)) + ((ji17) / 4294967296))) - (IntKind.u64.wrap (x15_18 * ji10)))) * 4294967296)) + (Go.bits .and .u64 (ji17) 4294967295))) - (IntKind.u64.wrap ((IntKind.u64.wrap (x18_2 - 1)) * ji10)))) ji8)) else (none)) else (bits_Div64.l1 kj24 ji10 ji8 ((ji10) / 4294967296) (Go.bits .and .u64 (ji10) 4294967295) (Go.bits .and .u64 (ji17) 4294967295) x15_18 (IntKind.u64.wrap (x16_2 + ((ji10) / 4294967296))) (IntKind.u64.wrap ((IntKind.u64.wrap ((IntKind.u64.wrap ((Go.bits .or .u64 (ji12) (ji15)) * 4294967296)) + ((ji17) / 4294967296))) - (IntKind.u64.wrap (x15_18 * ji10)))) (IntKind.u64.wrap (x18_2 - 1)))) = some (r1, r2) := by rw [if_pos rfl] at H; exact H); clear H; have H := H1; clear H1
               by_cases c28 : (IntKind.u64.wrap (x16_2 + ((ji10) / 4294967296))) ≥ 4294967296
               ·rw [if_pos c28] at H; have c28b0 : decide (4294967296 ≤ (IntKind.u64.wrap (x16_2 + ((ji10) / 4294967296)))) = true := decide_eq_true c28; clear c28
                by_cases c29 : 0 ≤ ji8
                ·rw [if_pos c29] at H; have c29b0 := eq_true c29; have c29b1 : decide (0 ≤ ji8) = true := decide_eq_true c29; clear c29; obtain ⟨ji30, hji30⟩ : ∃ j_ : Int, (shr .u64 (IntKind.u64.wrap ((IntKind.u64.wrap ((IntKind.u64.wrap ((IntKind.u64.wrap ((IntKind.u64.wrap ((IntKind.u64.wrap ((Go.bits .or .u64 (ji12) (ji15)) * 4294967296)) + ((ji17) / 4294967296))) - (IntKind.u64.wrap (x15_18 * ji10)))) * 4294967296)) + (Go.bits .and .u64 (ji17) 4294967295))) - (IntKind.u64.wrap ((IntKind.u64.wrap (x18_2 - 1)) * ji10)))) ji8) = j_ := ⟨_, rfl⟩; (replace H : (some (IntKind.u64.wrap ((IntKind.u64.wrap (x15_18 * 4294967296)) + (IntKind.u64.wrap (x18_2 - 1))), ji30)) = some (r1, r2) := by first | (rw [hji30] at H; exact H) | (simp only [hji30] at H ⊢; exact H)); have hji30_ : ((IntKind.u64.wrap ((IntKind.u64.wrap ((IntKind.u64.wrap ((IntKind.u64.wrap ((IntKind.u64.wrap ((IntKind.u64.wrap ((Go.bits .or .u64 (ji12) (ji15)) * 4294967296)) + ((ji17) / 4294967296))) - (IntKind.u64.wrap (x15_18 * ji10)))) * 4294967296)) + (Go.bits .and .u64 (ji17) 4294967295))) - (IntKind.u64.wrap ((IntKind.u64.wrap (x18_2 - 1)) * ji10)))) / 2 ^ min ji8.toNat 64) = ji30 := hji30; have hji30z : ji8 ≤ 64 → ((IntKind.u64.wrap ((IntKind.u64.wrap ((IntKind.u64.wrap ((IntKind.u64.wrap ((IntKind.u64.wrap ((IntKind.u64.wrap ((Go.bits .or .u64 (ji12) (ji15)) * 4294967296)) + ((ji17) / 4294967296))) - (IntKind.u64.wrap (x15_18 * ji10)))) * 4294967296)) + (Go.bits .and .u64 (ji17) 4294967295))) - (IntKind.u64.wrap ((IntKind.u64.wrap (x18_2 - 1)) * ji10)))) / 2 ^ ji8.toNat) = ji30 := shr_small hji30; simp only [Option.some.injEq, Prod.mk.injEq] at H; obtain ⟨rfl, rfl⟩ := H; (go_wp2); repeat (go_quiet (fail); try go_wp2)
                 go_ret2
                 exact ⟨by first | rfl | (simp; done) | (simp only [← hji8, ← hji10, ← hji12, ← hji13, ← hji15, ← hji17, ← hji30] <;> (first | rfl | simp)) | (simp [*]; done), by repeat (first | exact Drawn0.refl _ | apply Drawn0.step)⟩
                ·rw [if_neg c29] at H; exact absurd H (by simp)
               ·rw [if_neg c28] at H; have c28b0 : decide (4294967296 ≤ (IntKind.u64.wrap (x16_2 + ((ji10) / 4294967296)))) = false := decide_eq_false c28; clear c28; have H' := Aside0.mk H; clear H; (go_wp2); repeat (go_quiet (fail); try go_wp2)
                go_roundg kj24
                case measure => have := HJ18.out; have := HK2.out; have := HJ24.out; omega
                case rel => exact ⟨(IntKind.u64.wrap (x16_2 + ((ji10) / 4294967296))), (IntKind.u64.wrap (x18_2 - 1)), (by first | rfl | (simp; done) | (simp only [← hji10] <;> (first | rfl | simp)) | (simp [*]; done)), (by first | rfl | (simp; done) | (simp [*]; done)), H', ⟨by have := HJ18.out; have := HK2.out; have := HJ24.out; omega⟩, by repeat (first | exact Drawn0.refl _ | apply Drawn0.step)⟩
              ·replace c27 := Bool.eq_false_iff.mpr c27; subst c27; (have H1 : (if 0 ≤ ji8 then (some (IntKind.u64.wrap ((IntKind.u64.wrap (x15_18 * 4294967296)) + x18_2), shr .u64 (IntKind.u64.wrap ((IntKind.u64.wrap ((IntKind.u64.wrap ((IntKind.u64.wrap ((IntKind.u64.wrap ((IntKind.u64.wrap ((Go.bits .or .u64 (ji12) (ji15)) * 4294967296)) + ((ji17) / 4294967296))) - (IntKind.u64.wrap (x15_18 * ji10)))) * 4294967296)) + (Go.bits .and .u64 (ji17) 4294967295))) - (IntKind.u64.wrap (x18_2 * ji10)))) ji8)) else (none)) = some (r1, r2) := by rw [if_neg (show ¬ (false = true) by decide)] at H; exact H); clear H; have H := H1; clear H1
               by_cases c31 : 0 ≤ ji8
               ·rw [if_pos c31] at H; have c31b0 := eq_true c31; have c31b1 : decide (0 ≤ ji8) = true := decide_eq_true c31; clear c31; obtain ⟨ji32, hji32⟩ : ∃ j_ : Int, (shr .u64 (IntKind.u64.wrap ((IntKind.u64.wrap ((IntKind.u64.wrap ((IntKind.u64.wrap ((IntKind.u64.wrap ((IntKind.u64.wrap ((Go.bits .or .u64 (ji12) (ji15)) * 4294967296)) + ((ji17) / 4294967296))) - (IntKind.u64.wrap (x15_18 * ji10)))) * 4294967296)) + (Go.bits .and .u64 (ji17) 4294967295))) - (IntKind.u64.wrap (x18_2 * ji10)))) ji8) = j_ := ⟨_, rfl⟩; (replace H : (some (IntKind.u64.wrap ((IntKind.u64.wrap (x15_18 * 4294967296)) + x18_2), ji32)) = some (r1, r2) := by first | (rw [hji32] at H; exact H) | (simp only [hji32] at H ⊢; exact H)); have hji32_ : ((IntKind.u64.wrap ((IntKind.u64.wrap ((IntKind.u64.wrap ((IntKind.u64.wrap ((IntKind.u64.wrap ((IntKind.u64.wrap ((Go.bits .or .u64 (ji12) (ji15)) * 4294967296)) + ((ji17) / 4294967296))) - (IntKind.u64.wrap (x15_18 * ji10)))) * 4294967296)) + (Go.bits .and .u64 (ji17) 4294967295))) - (IntKind.u64.wrap (x18_2 * ji10)))) / 2 ^ min ji8.toNat 64) = ji32 := hji32; have hji32z : ji8 ≤ 64 → ((IntKind.u64.wrap ((IntKind.u64.wrap ((IntKind.u64.wrap ((IntKind.u64.wrap ((IntKind.u64.wrap ((IntKind.u64.wrap ((Go.bits .or .u64 (ji12) (ji15)) * 4294967296)) + ((ji17) / 4294967296))) - (IntKind.u64.wrap (x15_18 * ji10)))) * 4294967296)) + (Go.bits .and .u64 (ji17) 4294967295))) - (IntKind.u64.wrap (x18_2 * ji10)))) / 2 ^ ji8.toNat) = ji32 := shr_small hji32; simp only [Option.some.injEq, Prod.mk.injEq] at H; obtain ⟨rfl, rfl⟩ := H; (go_wp2); repeat (go_quiet (fail); try go_wp2)
                go_ret2
                exact ⟨by first | rfl | (simp; done) | (simp only [← hji8, ← hji10, ← hji12, ← hji13, ← hji15, ← hji17, ← hji32] <;> (first | rfl | simp)) | (simp [*]; done), by repeat (first | exact Drawn0.refl _ | apply Drawn0.step)⟩
               ·rw [if_neg c31] at H; exact absurd H (by simp)
     ·rw [if_neg c14] at H; exact absurd H (by simp)
    ·rw [if_neg c9] at H; exact absurd H (by simp)

end Go.Proofs.YtbapkiclgkddcaaGreatDoor.G
