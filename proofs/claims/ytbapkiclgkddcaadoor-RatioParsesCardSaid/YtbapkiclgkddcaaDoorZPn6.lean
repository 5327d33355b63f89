/- Texts of this claim laid together: Gf27, Gf6, MathR. -/
import Derived.Test.YtbapkiclgkddcaaDoorShortC
import Derived.Test.YtbapkiclgkddcaaDoorG0
import Derived.Test.YtbapkiclgkddcaaDoorGe1
import Derived.Test.YtbapkiclgkddcaaDoorZPn3
import Derived.Test.YtbapkiclgkddcaaDoorZPn5
import Derived.Test.YtbapkiclgkddcaaDoorZPn2
import Derived.Test.YtbapkiclgkddcaaDoorGe0
import Derived.Test.YtbapkiclgkddcaaDoorGivenS
import Derived.Test.YtbapkiclgkddcaaDoorZPn1
-- Printed by gp.py (a program of this session's own, over the kit's printer) out of the translation; Lean checks it.
namespace Go.Proofs.YtbapkiclgkddcaaDoor.G
open Go.Proofs.YtbapkiclgkddcaaDoor.Given Go.Proofs.YtbapkiclgkddcaaDoor.Short
open Go.RowKit Go.Proofs.YtbapkiclgkddcaaDoorW.PrintWords Go.Proofs.YtbapkiclgkddcaaDoorW.PrintLast Go.Proofs.YtbapkiclgkddcaaDoorW.PrintMore
attribute [local go_sem] max2_int min2_int max_two min_two max_three min_three max_four min_four   -- for this text's walks alone
set_option linter.unusedVariables false
set_option linter.unusedSimpArgs false

attribute [local go_sem high] eqA65
/-! ### r1_Parse: function 27 -/
mutual
def r1_Parse.j0 : Nat → ByteArray → Bool → Option (Int × Int × Int)
 | 0, _, _ => none
 | k + 1, x0, x4 => if x4 = true then (if 1 ≤ (x0.size : Int) then (r1_Parse.j1 k (x0.extract 1 x0.size) x4) else (none)) else (r1_Parse.j1 k x0 x4)
def r1_Parse.j1 : Nat → ByteArray → Bool → Option (Int × Int × Int)
 | 0, _, _ => none
 | k + 1, x0, x4 => (r1_index.f k x0 47).bind fun t258 => ((r1_index.f k x0 46).bind fun t259 => (if t258 ≥ 0 then (if 0 ≤ t258 then (if t258 ≤ (x0.size : Int) then ((r1_number.f k (x0.extract 0 (t258 : Int).toNat) 19).bind fun bt260 => (if 0 ≤ (wrap64 (t258 + 1)) then (if (wrap64 (t258 + 1)) ≤ (x0.size : Int) then ((r1_number.f k (x0.extract ((wrap64 (t258 + 1)) : Int).toNat x0.size) 19).bind fun bt262 => (if bt260.2 = true then (r1_Parse.j2 k x4 bt260.1 bt262.1 (!bt262.2)) else (r1_Parse.j2 k x4 bt260.1 bt262.1 true))) else (none)) else (none))) else (none)) else (none)) else (if t259 < 0 then ((r1_number.f k x0 19).bind fun bt270 => (if bt270.2 = true then (if x4 = true then ((r1_Reduce.f k (decide (bt270.1 > 0)) 0 bt270.1 0 1).bind fun bt272 => (some (bt272.1, bt272.2.1, bt272.2.2))) else ((r1_Reduce.f k false 0 bt270.1 0 1).bind fun bt275 => (some (bt275.1, bt275.2.1, bt275.2.2)))) else (some (0, 0, 7)))) else (if 0 ≤ t259 then (if t259 ≤ (x0.size : Int) then ((r1_number.f k (x0.extract 0 (t259 : Int).toNat) 19).bind fun bt278 => (if 0 ≤ (wrap64 (t259 + 1)) then (if (wrap64 (t259 + 1)) ≤ (x0.size : Int) then ((r1_number.f k (x0.extract ((wrap64 (t259 + 1)) : Int).toNat x0.size) 9).bind fun bt280 => (if bt278.2 = true then (r1_Parse.j3 k x0 x4 t259 bt278.1 bt280.1 (!bt280.2)) else (r1_Parse.j3 k x0 x4 t259 bt278.1 bt280.1 true))) else (none)) else (none))) else (none)) else (none)))))
def r1_Parse.j2 : Nat → Bool → Int → Int → Bool → Option (Int × Int × Int)
 | 0, _, _, _, _ => none
 | k + 1, x4, x7, x9, x57 => if x57 = true then (some (0, 0, 7)) else (if x9 = 0 then (some (0, 0, 2)) else (if x4 = true then ((r1_Reduce.f k (decide (x7 > 0)) 0 x7 0 x9).bind fun bt264 => (some (bt264.1, bt264.2.1, bt264.2.2))) else ((r1_Reduce.f k false 0 x7 0 x9).bind fun bt267 => (some (bt267.1, bt267.2.1, bt267.2.2)))))
def r1_Parse.j3 : Nat → ByteArray → Bool → Int → Int → Int → Bool → Option (Int × Int × Int)
 | 0, _, _, _, _, _, _ => none
 | k + 1, x0, x4, x6, x13, x15, x115 => if x115 = true then (some (0, 0, 7)) else (r1_Parse.l0 k x0 x4 x13 x15 1 (wrap64 (x6 + 1)))
def r1_Parse.l0 : Nat → ByteArray → Bool → Int → Int → Int → Int → Option (Int × Int × Int)
 | 0, _, _, _, _, _, _ => none
 | k + 1, x0, x4, x13, x15, x17, x18 => if x18 < (x0.size : Int) then (r1_Parse.l0 k x0 x4 x13 x15 (IntKind.u64.wrap (x17 * 10)) (wrap64 (x18 + 1))) else ((r1_Product.f x13 x17).bind fun bt282 => ((r1_Plus.f bt282.1 bt282.2 0 x15).bind fun bt284 => (if x4 = true then ((r1_Reduce.f k (!(bt284.1 == 0) || (!(bt284.2 == 0))) bt284.1 bt284.2 0 x17).bind fun bt287 => (some (bt287.1, bt287.2.1, bt287.2.2))) else ((r1_Reduce.f k false bt284.1 bt284.2 0 x17).bind fun bt290 => (some (bt290.1, bt290.2.1, bt290.2.2))))))
end
def r1_Parse.f (k : Nat) (a0 : ByteArray) : Option (Int × Int × Int) := if (a0.size : Int) > 0 then (if 0 < (a0.size : Int) then (r1_Parse.j0 k a0 ((bt a0 0) == 45)) else (none)) else (r1_Parse.j0 k a0 false)
theorem r1_Parse.mono_l : ∀ k, (∀ y0 y1, LeO (r1_Parse.j0 k y0 y1) (r1_Parse.j0 (k + 1) y0 y1)) ∧ (∀ y0 y1, LeO (r1_Parse.j1 k y0 y1) (r1_Parse.j1 (k + 1) y0 y1)) ∧ (∀ y0 y1 y2 y3, LeO (r1_Parse.j2 k y0 y1 y2 y3) (r1_Parse.j2 (k + 1) y0 y1 y2 y3)) ∧ (∀ y0 y1 y2 y3 y4 y5, LeO (r1_Parse.j3 k y0 y1 y2 y3 y4 y5) (r1_Parse.j3 (k + 1) y0 y1 y2 y3 y4 y5)) ∧ (∀ y0 y1 y2 y3 y4 y5, LeO (r1_Parse.l0 k y0 y1 y2 y3 y4 y5) (r1_Parse.l0 (k + 1) y0 y1 y2 y3 y4 y5))
 | 0 => ⟨fun _ _ r h => by simp [r1_Parse.j0] at h, fun _ _ r h => by simp [r1_Parse.j1] at h, fun _ _ _ _ r h => by simp [r1_Parse.j2] at h, fun _ _ _ _ _ _ r h => by simp [r1_Parse.j3] at h, fun _ _ _ _ _ _ r h => by simp [r1_Parse.l0] at h⟩
 | k + 1 => by
  obtain ⟨ih0, ih1, ih2, ih3, ih4⟩ := r1_Parse.mono_l k; refine ⟨?_, ?_, ?_, ?_, ?_⟩
  ·intro y0 y1; unfold r1_Parse.j0
   repeat' first
   | (with_reducible exact ih0 _ _)
   | (with_reducible exact ih1 _ _)
   | (with_reducible exact ih2 _ _ _ _)
   | (with_reducible exact ih3 _ _ _ _ _ _)
   | (with_reducible exact ih4 _ _ _ _ _ _)
   | (with_reducible exact r1_Reduce.mono _ _ _ _ _ _)
   | (with_reducible exact r1_index.mono _ _ _)
   | (with_reducible exact r1_number.mono _ _ _)
   | (with_reducible exact LeO.refl _)
   | (with_reducible exact LeO.none _)
   | (with_reducible refine LeO.ite ?_ ?_)
   | (with_reducible refine LeO.bind ?_ (fun _ => ?_))
   | exact ih0 _ _
   | exact ih1 _ _
   | exact ih2 _ _ _ _
   | exact ih3 _ _ _ _ _ _
   | exact ih4 _ _ _ _ _ _
   | exact r1_Reduce.mono _ _ _ _ _ _
   | exact r1_index.mono _ _ _
   | exact r1_number.mono _ _ _
   | exact LeO.none _
   | refine LeO.ite ?_ ?_
   | refine LeO.bind ?_ (fun _ => ?_)
  ·intro y0 y1; unfold r1_Parse.j1
   repeat' first
   | (with_reducible exact ih0 _ _)
   | (with_reducible exact ih1 _ _)
   | (with_reducible exact ih2 _ _ _ _)
   | (with_reducible exact ih3 _ _ _ _ _ _)
   | (with_reducible exact ih4 _ _ _ _ _ _)
   | (with_reducible exact r1_Reduce.mono _ _ _ _ _ _)
   | (with_reducible exact r1_index.mono _ _ _)
   | (with_reducible exact r1_number.mono _ _ _)
   | (with_reducible exact LeO.refl _)
   | (with_reducible exact LeO.none _)
   | (with_reducible refine LeO.ite ?_ ?_)
   | (with_reducible refine LeO.bind ?_ (fun _ => ?_))
   | exact ih0 _ _
   | exact ih1 _ _
   | exact ih2 _ _ _ _
   | exact ih3 _ _ _ _ _ _
   | exact ih4 _ _ _ _ _ _
   | exact r1_Reduce.mono _ _ _ _ _ _
   | exact r1_index.mono _ _ _
   | exact r1_number.mono _ _ _
   | exact LeO.none _
   | refine LeO.ite ?_ ?_
   | refine LeO.bind ?_ (fun _ => ?_)
  ·intro y0 y1 y2 y3; unfold r1_Parse.j2
   repeat' first
   | (with_reducible exact ih0 _ _)
   | (with_reducible exact ih1 _ _)
   | (with_reducible exact ih2 _ _ _ _)
   | (with_reducible exact ih3 _ _ _ _ _ _)
   | (with_reducible exact ih4 _ _ _ _ _ _)
   | (with_reducible exact r1_Reduce.mono _ _ _ _ _ _)
   | (with_reducible exact r1_index.mono _ _ _)
   | (with_reducible exact r1_number.mono _ _ _)
   | (with_reducible exact LeO.refl _)
   | (with_reducible exact LeO.none _)
   | (with_reducible refine LeO.ite ?_ ?_)
   | (with_reducible refine LeO.bind ?_ (fun _ => ?_))
   | exact ih0 _ _
   | exact ih1 _ _
   | exact ih2 _ _ _ _
   | exact ih3 _ _ _ _ _ _
   | exact ih4 _ _ _ _ _ _
   | exact r1_Reduce.mono _ _ _ _ _ _
   | exact r1_index.mono _ _ _
   | exact r1_number.mono _ _ _
   | exact LeO.none _
   | refine LeO.ite ?_ ?_
   | refine LeO.bind ?_ (fun _ => ?_)
  ·intro y0 y1 y2 y3 y4 y5; unfold r1_Parse.j3
   repeat' first
   | (with_reducible exact ih0 _ _)
   | (with_reducible exact ih1 _ _)
   | (with_reducible exact ih2 _ _ _ _)
   | (with_reducible exact ih3 _ _ _ _ _ _)
   | (with_reducible exact ih4 _ _ _ _ _ _)
   | (with_reducible exact r1_Reduce.mono _ _ _ _ _ _)
   | (with_reducible exact r1_index.mono _ _ _)
   | (with_reducible exact r1_number.mono _ _ _)
   | (with_reducible exact LeO.refl _)
   | (with_reducible exact LeO.none _)
   | (with_reducible refine LeO.ite ?_ ?_)
   | (with_reducible refine LeO.bind ?_ (fun _ => ?_))
   | exact ih0 _ _
   | exact ih1 _ _
   | exact ih2 _ _ _ _
   | exact ih3 _ _ _ _ _ _
   | exact ih4 _ _ _ _ _ _
   | exact r1_Reduce.mono _ _ _ _ _ _
   | exact r1_index.mono _ _ _
   | exact r1_number.mono _ _ _
   | exact LeO.none _
   | refine LeO.ite ?_ ?_
   | refine LeO.bind ?_ (fun _ => ?_)
  ·intro y0 y1 y2 y3 y4 y5; unfold r1_Parse.l0
   repeat' first
   | (with_reducible exact ih0 _ _)
   | (with_reducible exact ih1 _ _)
   | (with_reducible exact ih2 _ _ _ _)
   | (with_reducible exact ih3 _ _ _ _ _ _)
   | (with_reducible exact ih4 _ _ _ _ _ _)
   | (with_reducible exact r1_Reduce.mono _ _ _ _ _ _)
   | (with_reducible exact r1_index.mono _ _ _)
   | (with_reducible exact r1_number.mono _ _ _)
   | (with_reducible exact LeO.refl _)
   | (with_reducible exact LeO.none _)
   | (with_reducible refine LeO.ite ?_ ?_)
   | (with_reducible refine LeO.bind ?_ (fun _ => ?_))
   | exact ih0 _ _
   | exact ih1 _ _
   | exact ih2 _ _ _ _
   | exact ih3 _ _ _ _ _ _
   | exact ih4 _ _ _ _ _ _
   | exact r1_Reduce.mono _ _ _ _ _ _
   | exact r1_index.mono _ _ _
   | exact r1_number.mono _ _ _
   | exact LeO.none _
   | refine LeO.ite ?_ ?_
   | refine LeO.bind ?_ (fun _ => ?_)
theorem r1_Parse.mono : ∀ a0 k, LeO (r1_Parse.f k a0) (r1_Parse.f (k + 1) a0) := by
 intro a0 k; obtain ⟨ih0, ih1, ih2, ih3, ih4⟩ := r1_Parse.mono_l k; unfold r1_Parse.f
 repeat' first
   | (with_reducible exact ih0 _ _)
   | (with_reducible exact ih1 _ _)
   | (with_reducible exact ih2 _ _ _ _)
   | (with_reducible exact ih3 _ _ _ _ _ _)
   | (with_reducible exact ih4 _ _ _ _ _ _)
   | (with_reducible exact r1_Reduce.mono _ _ _ _ _ _)
   | (with_reducible exact r1_index.mono _ _ _)
   | (with_reducible exact r1_number.mono _ _ _)
   | (with_reducible exact LeO.refl _)
   | (with_reducible exact LeO.none _)
   | (with_reducible refine LeO.ite ?_ ?_)
   | (with_reducible refine LeO.bind ?_ (fun _ => ?_))
   | exact ih0 _ _
   | exact ih1 _ _
   | exact ih2 _ _ _ _
   | exact ih3 _ _ _ _ _ _
   | exact ih4 _ _ _ _ _ _
   | exact r1_Reduce.mono _ _ _ _ _ _
   | exact r1_index.mono _ _ _
   | exact r1_number.mono _ _ _
   | exact LeO.none _
   | refine LeO.ite ?_ ?_
   | refine LeO.bind ?_ (fun _ => ?_)
def r1_Parse.T28 : Bool × List (List Nat × List Nat) := (true, [([], []), ([0], [0]), ([1], [1]), ([1], [1]), ([2, 3, 1], [1, 2, 3]), ([1, 4], [1, 4]), ([], []), ([], []), ([7], [7]), ([5, 6, 8, 1], [5, 6, 8]), ([9], [9]), ([9], [9]), ([10, 9, 0, 1, 2, 3, 4, 5, 6, 7, 8, 9, 10, 11], [10]), ([11, 12, 0, 1, 2, 3, 4, 5, 6, 7, 8, 9, 10, 11, 12], [11])])
def r1_Parse.B28 : List Nat := [0, 1, 3, 3, 15, 31, 0, 0, 128, 511, 1023, 1023, 4095, 8191]
theorem r1_Parse.tab28 : rtab .any (opsOf Tryd.f27 28) = r1_Parse.T28 := by kernel_rfl
theorem r1_Parse.bits28 : waitsOk r1_Parse.T28.2 r1_Parse.B28 = true := by kernel_rfl
set_option maxHeartbeats 8000000 in
set_option maxRecDepth 100000 in
theorem r1_Parse.calls (k : Nat) (a0 : ByteArray) (r1 : Int) (r2 : Int) (r3 : Int) (w : World) (h : r1_Parse.f k a0 = some (r1, r2, r3)) :
  Calls Tryd.prog 27 #[.string a0] w fun e w' => e = .returned (.tuple #[.agg #[.int .i64 r1, .int .i64 r2], .int .i64 r3]) ∧ Below w.heap.size w w' := by
 have hu24 := Tryd.underlying24; have hu65 := Tryd.underlying65; have HB := Aside0.mk (Below.refl w.heap.size w); have H : (if (a0.size : Int) > 0 then (if 0 < (a0.size : Int) then (r1_Parse.j0 k a0 ((bt a0 0) == 45)) else (none)) else (r1_Parse.j0 k a0 false)) = some (r1, r2, r3) := h; clear h; have HC2 := Aside0.mk H; clear H; go_enter Tryd.func27, Tryd.ntmps27
 go_upto_region 1 with (first | ((with_reducible refine gate_dst (N := 2) rfl ?_); refine bx (N := 2) (cs := #[.int .i64 0, .int .i64 0]) (t := 24) ?_; intro gb257 hg w3 hbox hb; have BK257 := Aside0.mk (hbox); have GW257 := gs HB hg; have GE257 := gs HB hg; replace HB := wb HB hb; clear hb hbox hg))
 (try simp only [Act.put, List.setIfInBounds_toArray, List.set_cons_zero, List.set_cons_succ])
 go_cut [4] (fun v4 wc => ∃ (kq : Nat) (x4_1 : Bool), v4 = .bool x4_1 ∧ Aside0 (r1_Parse.j0 kq a0 x4_1 = some (r1, r2, r3)) ∧ Aside0 (kq ≤ k) ∧ Aside0 (wc.heap[gb257]? = some (.cells #[.int .i64 0, .int .i64 0] 24 (0, 0))) ∧ Aside0 (Below w.heap.size w wc))
 case first =>
  have H := HC2.out; clear HC2
  by_cases c4 : (a0.size : Int) > 0
  ·rw [if_pos c4] at H; have c4b0 : decide (0 < (a0.size : Int)) = true := decide_eq_true c4; have c4b1 : decide (0 < a0.size) = true := decide_eq_true (by omega); clear c4
   (first | rw [c4b0] | (simp only [i64_w, i32_w]; rw [c4b0]) | skip)
   by_cases c5 : 0 < (a0.size : Int)
   ·rw [if_pos c5] at H; have c5b0 : decide (0 < (a0.size : Int)) = true := decide_eq_true c5; have c5b1 : decide (0 < a0.size) = true := decide_eq_true (by omega); clear c5; have H' := Aside0.mk H; clear H; have p6 : 0 ≤ (0 : Int) := (by omega); have q6 : 0 < a0.size := (by have : (0 : Int) < (a0.size : Int) := of_decide_eq_true (by first | (with_reducible assumption) | assumption); omega); have hx6 : ∀ h : 0 < a0.size, ((a0[0]'h).toNat : Int) = bt a0 0 := bt_at a0 0; clear p6; have qi6 : (0 < (a0.size : Int)) = True := eq_true (of_decide_eq_true (by first | (with_reducible assumption) | assumption)); replace q6 := eq_true q6; go_wp2
    go_meet
    case rel => exact ⟨_, (((bt a0 0) == 45)), (by first | rfl | (simp; done) | (simp [*]; done)), H', ⟨by first | omega | exact Nat.le_refl _⟩, ⟨bq BK257⟩, ⟨bw HB⟩⟩
   ·rw [if_neg c5] at H; exact absurd H (by simp)
  ·rw [if_neg c4] at H; have c4b0 : decide (0 < (a0.size : Int)) = false := decide_eq_false c4; have c4b1 : decide (0 < a0.size) = false := decide_eq_false (by omega); clear c4
   (first | rw [c4b0] | (simp only [i64_w, i32_w]; rw [c4b0]) | skip)
   have H' := Aside0.mk H; clear H; go_wp2
   go_meet
   case rel => exact ⟨_, (false), (by first | rfl | (simp; done) | (simp [*]; done)), H', ⟨by first | omega | exact Nat.le_refl _⟩, ⟨bq BK257⟩, ⟨bw HB⟩⟩
 case rest =>
  clear HC2; (try clear c2); (try clear p2); (try clear c4); (try clear c4b0); (try clear c4b1); (try clear c5); (try clear c5b0); (try clear c5b1); (try clear p6); (try clear q6); (try clear hx6); (try clear qi6); (try clear p6); (try clear q6); obtain ⟨kq, x4_1, rfl, HA, HJ1, BK257, HB⟩ := hcut
  cases kq with
  | zero => exact absurd HA.out (by simp [r1_Parse.j0])
  | succ kj1 =>
   have H := HA.out; clear HA; simp only [r1_Parse.j0] at H; have HC7 := Aside0.mk H; clear H
   go_upto_if 28 with (fail)
   go_cut [0] (fun v0 wc => ∃ (kq : Nat) (x0_6 : ByteArray), v0 = .string x0_6 ∧ Aside0 (r1_Parse.j1 kq x0_6 x4_1 = some (r1, r2, r3)) ∧ Aside0 (kq ≤ kj1) ∧ Aside0 (wc.heap[gb257]? = some (.cells #[.int .i64 0, .int .i64 0] 24 (0, 0))) ∧ Aside0 (Below w.heap.size w wc))
   case first =>
    have H := HC7.out; clear HC7
    by_cases c8 : x4_1 = true
    ·subst c8; (have H1 : (if 1 ≤ (a0.size : Int) then (r1_Parse.j1 kj1 (a0.extract 1 a0.size) true) else (none)) = some (r1, r2, r3) := by rw [if_pos rfl] at H; exact H); clear H; have H := H1; clear H1
     by_cases c9 : 1 ≤ (a0.size : Int)
     ·rw [if_pos c9] at H; have c9b0 := eq_true c9; have c9b1 : decide (1 ≤ (a0.size : Int)) = true := decide_eq_true c9; clear c9; have H' := Aside0.mk H; clear H; go_wp2
      go_meet
      case rel => exact ⟨_, (a0.extract 1 a0.size), (by first | rfl | (simp; done) | (simp [*]; done)), H', ⟨by have := HJ1.out; first | omega | exact Nat.le_refl _⟩, ⟨bq BK257⟩, ⟨bw HB⟩⟩
     ·rw [if_neg c9] at H; exact absurd H (by simp)
    ·replace c8 := Bool.eq_false_iff.mpr c8; subst c8; (have H1 : (r1_Parse.j1 kj1 a0 false) = some (r1, r2, r3) := by rw [if_neg (show ¬ (false = true) by decide)] at H; exact H); clear H; have H := H1; clear H1; have H' := Aside0.mk H; clear H; go_wp2
     go_meet
     case rel => exact ⟨_, (a0), (by first | rfl | (simp; done) | (simp [*]; done)), H', ⟨by have := HJ1.out; first | omega | exact Nat.le_refl _⟩, ⟨bq BK257⟩, ⟨bw HB⟩⟩
   case rest =>
    clear HC7; (try clear c2); (try clear p2); (try clear c4); (try clear c4b0); (try clear c4b1); (try clear c5); (try clear c5b0); (try clear c5b1); (try clear p6); (try clear q6); (try clear hx6); (try clear qi6); (try clear c8); (try clear c9); (try clear c9b0); (try clear c9b1); (try clear p2); (try clear p6); (try clear q6); obtain ⟨kq, x0_6, rfl, HA, HJ6, BK257, HB⟩ := hcut
    cases kq with
    | zero => exact absurd HA.out (by simp [r1_Parse.j1])
    | succ kj6 =>
     have H := HA.out; clear HA; simp only [r1_Parse.j1] at H; replace H := Option.bind_eq_some_iff.mp H; obtain ⟨t258, A100, H⟩ := H; (try dsimp only at H); have A10 := Aside0.mk A100; clear A100; replace H := Option.bind_eq_some_iff.mp H; obtain ⟨t259, A110, H⟩ := H; (try dsimp only at H); have A11 := Aside0.mk A110; clear A110; have HC12 := Aside0.mk H; clear H
     go_upto_if 36 with (first | ((with_reducible refine gate_callee (f := 60) rfl ?_); refine gl (some 32) Tryd.func60 #[.string x0_6, .int .u8 47] ?_; (with_reducible refine (r1_index.calls kj6 x0_6 47 t258 _ A10.out).mono ?_); rintro e w' ⟨rfl, ⟨nd, rfl⟩⟩; refine ⟨_, rfl, ?_⟩) | ((with_reducible refine gate_callee (f := 60) rfl ?_); refine gl (some 34) Tryd.func60 #[.string x0_6, .int .u8 46] ?_; (with_reducible refine (r1_index.calls kj6 x0_6 46 t259 _ A11.out).mono ?_); rintro e w' ⟨rfl, ⟨nd, rfl⟩⟩; refine ⟨_, rfl, ?_⟩))
     (try simp only [Act.put, List.setIfInBounds_toArray, List.set_cons_zero, List.set_cons_succ]); have H := HC12.out; clear HC12
     by_cases c13 : t258 ≥ 0
     ·rw [if_pos c13] at H; have c13b0 : decide (0 ≤ t258) = true := decide_eq_true c13; clear c13
      (first | rw [c13b0] | (simp only [i64_w, i32_w]; rw [c13b0]) | skip)
      by_cases c14 : 0 ≤ t258
      ·rw [if_pos c14] at H; have c14b0 := eq_true c14; have c14b1 : decide (0 ≤ t258) = true := decide_eq_true c14; clear c14
       by_cases c15 : t258 ≤ (x0_6.size : Int)
       ·rw [if_pos c15] at H; have c15b0 := eq_true c15; have c15b1 : decide (t258 ≤ (x0_6.size : Int)) = true := decide_eq_true c15; clear c15; replace H := Option.bind_eq_some_iff.mp H; obtain ⟨⟨t260, t261⟩, A160, H⟩ := H; (try dsimp only at H); have A16 := Aside0.mk A160; clear A160; obtain ⟨ji17, hji17⟩ : ∃ j_ : Int, (wrap64 (t258 + 1)) = j_ := ⟨_, rfl⟩; (replace H : (if 0 ≤ (ji17) then (if (ji17) ≤ (x0_6.size : Int) then ((r1_number.f kj6 (x0_6.extract ((ji17) : Int).toNat x0_6.size) 19).bind fun bt262 => (if t261 = true then (r1_Parse.j2 kj6 x4_1 t260 bt262.1 (!bt262.2)) else (r1_Parse.j2 kj6 x4_1 t260 bt262.1 true))) else (none)) else (none)) = some (r1, r2, r3) := by first | (rw [hji17] at H; exact H) | (simp only [hji17] at H ⊢; exact H)); (try rw [hji17] at A16); have hji17w : (IntKind.i64.wrap (t258 + 1)) = ji17 := (i64_w _).trans hji17
        by_cases c18 : 0 ≤ (ji17)
        ·rw [if_pos c18] at H; have c18b0 := eq_true c18; have c18b1 : decide (0 ≤ (ji17)) = true := decide_eq_true c18; clear c18
         by_cases c19 : (ji17) ≤ (x0_6.size : Int)
         ·rw [if_pos c19] at H; have c19b0 := eq_true c19; have c19b1 : decide ((ji17) ≤ (x0_6.size : Int)) = true := decide_eq_true c19; clear c19; replace H := Option.bind_eq_some_iff.mp H; obtain ⟨⟨t262, t263⟩, A200, H⟩ := H; (try dsimp only at H); have A20 := Aside0.mk A200; clear A200; have HC21 := Aside0.mk H; clear H
          go_upto_region 8 with (first | ((with_reducible refine gate_callee (f := 61) rfl ?_); refine gl (some 41) Tryd.func61 #[.string (x0_6.extract 0 (t258 : Int).toNat), .int .i64 19] ?_; (with_reducible refine (r1_number.calls kj6 (x0_6.extract 0 (t258 : Int).toNat) 19 t260 t261 _ A16.out).mono ?_); rintro e w' ⟨rfl, ⟨nd, rfl⟩⟩; refine ⟨_, rfl, ?_⟩) | ((with_reducible refine gate_callee (f := 61) rfl ?_); refine goesL_ (some 49) rfl rfl Tryd.func61 (by kernel_rfl) rfl #[.string (x0_6.extract ((ji17) : Int).toNat x0_6.size), .int .i64 19] rfl (by (try simp only [List.map_toArray, List.map_cons, List.map_nil]); first | done | (simp only [hji17]; rfl) | rfl | (simp only [List.length_drop, List.length_take]; rfl)) ?_; (with_reducible refine (r1_number.calls kj6 (x0_6.extract ((ji17) : Int).toNat x0_6.size) 19 t262 t263 _ A20.out).mono ?_); rintro e w' ⟨rfl, ⟨nd, rfl⟩⟩; refine ⟨_, rfl, ?_⟩))
          (try simp only [Act.put, List.setIfInBounds_toArray, List.set_cons_zero, List.set_cons_succ])
          go_cut [57] (fun v57 wc => ∃ (kq : Nat) (x57_20 : Bool), v57 = .bool x57_20 ∧ Aside0 (r1_Parse.j2 kq x4_1 t260 t262 x57_20 = some (r1, r2, r3)) ∧ Aside0 (kq ≤ kj6) ∧ Aside0 (wc.heap[gb257]? = some (.cells #[.int .i64 0, .int .i64 0] 24 (0, 0))) ∧ Aside0 (Below w.heap.size w wc))
          case first =>
           have H := HC21.out; clear HC21
           by_cases c22 : t261 = true
           ·subst c22; (have H1 : (r1_Parse.j2 kj6 x4_1 t260 t262 (!t263)) = some (r1, r2, r3) := by rw [if_pos rfl] at H; exact H); clear H; have H := H1; clear H1; have H' := Aside0.mk H; clear H; go_wp2
            go_meet
            case rel => exact ⟨_, (!t263), (by first | rfl | (simp; done) | (simp [*]; done)), H', ⟨by have := HJ1.out; have := HJ6.out; first | omega | exact Nat.le_refl _⟩, ⟨bq BK257⟩, ⟨bw HB⟩⟩
           ·replace c22 := Bool.eq_false_iff.mpr c22; subst c22; (have H1 : (r1_Parse.j2 kj6 x4_1 t260 t262 true) = some (r1, r2, r3) := by rw [if_neg (show ¬ (false = true) by decide)] at H; exact H); clear H; have H := H1; clear H1; have H' := Aside0.mk H; clear H; go_wp2
            go_meet
            case rel => exact ⟨_, (true), (by first | rfl | (simp; done) | (simp [*]; done)), H', ⟨by have := HJ1.out; have := HJ6.out; first | omega | exact Nat.le_refl _⟩, ⟨bq BK257⟩, ⟨bw HB⟩⟩
          case rest =>
           clear HC21; (try clear c1); (try clear c2); (try clear p2); (try clear c4); (try clear c4b0); (try clear c4b1); (try clear c5); (try clear c5b0); (try clear c5b1); (try clear c6); (try clear p6); (try clear q6); (try clear hx6); (try clear qi6); (try clear c8); (try clear c9); (try clear c9b0); (try clear c9b1); (try clear c13); (try clear c13b0); (try clear c14); (try clear c14b0); (try clear c14b1); (try clear c15); (try clear c15b0); (try clear c15b1); (try clear c18); (try clear c18b0); (try clear c18b1); (try clear c19); (try clear c19b0); (try clear c19b1); (try clear c22); (try clear p2); (try clear p6); (try clear q6); obtain ⟨kq, x57_20, rfl, HA, HJ20, BK257, HB⟩ := hcut
           cases kq with
           | zero => exact absurd HA.out (by simp [r1_Parse.j2])
           | succ kj20 =>
            have H := HA.out; clear HA; simp only [r1_Parse.j2] at H
            by_cases c23 : x57_20 = true
            ·subst c23; (have H1 : (some (0, 0, 7)) = some (r1, r2, r3) := by rw [if_pos rfl] at H; exact H); clear H; have H := H1; clear H1; simp only [Option.some.injEq, Prod.mk.injEq] at H; obtain ⟨rfl, rfl, rfl⟩ := H; have hcz24_0 : wc.cell? ⟨gb257, 0, none⟩ = some (.int .i64 0) := bc BK257 0; have hcz24_1 : wc.cell? ⟨gb257, 1, none⟩ = some (.int .i64 0) := bc BK257 1; have hfz24_0 := blk_frozen BK257.out 0; have hfz24_1 := blk_frozen BK257.out 1; (go_wp2); refine bodyPost_ret (results_ct rfl _ _ gb257 24 #[.int .i64 0, .int .i64 0] (0, 0) _ rfl (by refine pe ?_; refine blk_put (cs := #[.int .i64 0, .int .i64 0]) ?_ 1 _ rfl; refine pe ?_; refine blk_put (cs := #[.int .i64 0, .int .i64 0]) ?_ 0 _ rfl; refine pe ?_; exact BK257.out) Tryd.underlying24 rfl (by kernel_rfl)) rfl ?_; exact ⟨by first | rfl | (simp [errW_none, errW_some] <;> rfl) | (simp only [← hji17]; first | rfl | (simp [errW_none, errW_some] <;> rfl)) | (simp [*, errW_none, errW_some] <;> rfl), bw HB⟩
            ·replace c23 := Bool.eq_false_iff.mpr c23; subst c23; (have H1 : (if t262 = 0 then (some (0, 0, 2)) else (if x4_1 = true then ((r1_Reduce.f kj20 (decide (t260 > 0)) 0 t260 0 t262).bind fun bt264 => (some (bt264.1, bt264.2.1, bt264.2.2))) else ((r1_Reduce.f kj20 false 0 t260 0 t262).bind fun bt267 => (some (bt267.1, bt267.2.1, bt267.2.2))))) = some (r1, r2, r3) := by rw [if_neg (show ¬ (false = true) by decide)] at H; exact H); clear H; have H := H1; clear H1
             by_cases c25 : t262 = 0
             ·rw [if_pos c25] at H; have c25b0 : (t262 == 0) = true := beq_iff_eq.mpr c25; have c25b1 : (t262 != 0) = false := bne_eq_false_iff_eq.mpr c25; clear c25; simp only [Option.some.injEq, Prod.mk.injEq] at H; obtain ⟨rfl, rfl, rfl⟩ := H; have hcz26_0 : wc.cell? ⟨gb257, 0, none⟩ = some (.int .i64 0) := bc BK257 0; have hcz26_1 : wc.cell? ⟨gb257, 1, none⟩ = some (.int .i64 0) := bc BK257 1; have hfz26_0 := blk_frozen BK257.out 0; have hfz26_1 := blk_frozen BK257.out 1; (go_wp2); refine bodyPost_ret (results_ct rfl _ _ gb257 24 #[.int .i64 0, .int .i64 0] (0, 0) _ rfl (by refine pe ?_; refine blk_put (cs := #[.int .i64 0, .int .i64 0]) ?_ 1 _ rfl; refine pe ?_; refine blk_put (cs := #[.int .i64 0, .int .i64 0]) ?_ 0 _ rfl; refine pe ?_; exact BK257.out) Tryd.underlying24 rfl (by kernel_rfl)) rfl ?_; exact ⟨by first | rfl | (simp [errW_none, errW_some] <;> rfl) | (simp only [← hji17]; first | rfl | (simp [errW_none, errW_some] <;> rfl)) | (simp [*, errW_none, errW_some] <;> rfl), bw HB⟩
             ·rw [if_neg c25] at H; have c25b0 : (t262 == 0) = false := beq_eq_false_iff_ne.mpr c25; have c25b1 : (t262 != 0) = true := bne_iff_ne.mpr c25
              by_cases c27 : x4_1 = true
              ·subst c27; (have H1 : ((r1_Reduce.f kj20 (decide (t260 > 0)) 0 t260 0 t262).bind fun bt264 => (some (bt264.1, bt264.2.1, bt264.2.2))) = some (r1, r2, r3) := by rw [if_pos rfl] at H; exact H); clear H; have H := H1; clear H1; replace H := Option.bind_eq_some_iff.mp H; obtain ⟨⟨t264, t265, t266⟩, A280, H⟩ := H; (try dsimp only at H); have A28 := Aside0.mk A280; clear A280; simp only [Option.some.injEq, Prod.mk.injEq] at H; obtain ⟨rfl, rfl, rfl⟩ := H; (go_wp2_with (first | ((with_reducible refine gate_callee (f := 62) rfl ?_); refine gl (some 71) Tryd.func62 #[.bool (decide (t260 > 0)), .agg #[.int .u64 0, .int .u64 t260], .agg #[.int .u64 0, .int .u64 t262]] ?_; (with_reducible refine (r1_Reduce.calls kj20 (decide (t260 > 0)) 0 t260 0 t262 t264 t265 t266 _ A28.out).mono ?_); rintro e w29 ⟨rfl, hb⟩; refine ⟨_, rfl, ?_⟩; replace BK257 := kb BK257 hb; replace HB := wb HB hb; (try clear hb); (try clear hb2); (try clear hk); (try clear hi); have hcz30_0 : w29.cell? ⟨gb257, 0, none⟩ = some (.int .i64 0) := bc BK257 0; have hcz30_1 : w29.cell? ⟨gb257, 1, none⟩ = some (.int .i64 0) := bc BK257 1; have hfz30_0 := blk_frozen BK257.out 0; have hfz30_1 := blk_frozen BK257.out 1))); refine bodyPost_ret (results_ct rfl _ _ gb257 24 #[.int .i64 t264, .int .i64 t265] (0, 0) _ rfl (by refine pe ?_; refine blk_put (cs := #[.int .i64 t264, .int .i64 0]) ?_ 1 _ rfl; refine pe ?_; refine blk_put (cs := #[.int .i64 0, .int .i64 0]) ?_ 0 _ rfl; refine pe ?_; exact BK257.out) Tryd.underlying24 rfl (by kernel_rfl)) rfl ?_; exact ⟨by first | rfl | (simp [errW_none, errW_some] <;> rfl) | (simp only [← hji17]; first | rfl | (simp [errW_none, errW_some] <;> rfl)) | (simp [*, errW_none, errW_some] <;> rfl), bw HB⟩
              ·replace c27 := Bool.eq_false_iff.mpr c27; subst c27; (have H1 : ((r1_Reduce.f kj20 false 0 t260 0 t262).bind fun bt267 => (some (bt267.1, bt267.2.1, bt267.2.2))) = some (r1, r2, r3) := by rw [if_neg (show ¬ (false = true) by decide)] at H; exact H); clear H; have H := H1; clear H1; replace H := Option.bind_eq_some_iff.mp H; obtain ⟨⟨t267, t268, t269⟩, A310, H⟩ := H; (try dsimp only at H); have A31 := Aside0.mk A310; clear A310; simp only [Option.some.injEq, Prod.mk.injEq] at H; obtain ⟨rfl, rfl, rfl⟩ := H; (go_wp2_with (first | ((with_reducible refine gate_callee (f := 62) rfl ?_); refine gl (some 71) Tryd.func62 #[.bool false, .agg #[.int .u64 0, .int .u64 t260], .agg #[.int .u64 0, .int .u64 t262]] ?_; (with_reducible refine (r1_Reduce.calls kj20 false 0 t260 0 t262 t267 t268 t269 _ A31.out).mono ?_); rintro e w32 ⟨rfl, hb⟩; refine ⟨_, rfl, ?_⟩; replace BK257 := kb BK257 hb; replace HB := wb HB hb; (try clear hb); (try clear hb2); (try clear hk); (try clear hi); have hcz33_0 : w32.cell? ⟨gb257, 0, none⟩ = some (.int .i64 0) := bc BK257 0; have hcz33_1 : w32.cell? ⟨gb257, 1, none⟩ = some (.int .i64 0) := bc BK257 1; have hfz33_0 := blk_frozen BK257.out 0; have hfz33_1 := blk_frozen BK257.out 1))); refine bodyPost_ret (results_ct rfl _ _ gb257 24 #[.int .i64 t267, .int .i64 t268] (0, 0) _ rfl (by refine pe ?_; refine blk_put (cs := #[.int .i64 t267, .int .i64 0]) ?_ 1 _ rfl; refine pe ?_; refine blk_put (cs := #[.int .i64 0, .int .i64 0]) ?_ 0 _ rfl; refine pe ?_; exact BK257.out) Tryd.underlying24 rfl (by kernel_rfl)) rfl ?_; exact ⟨by first | rfl | (simp [errW_none, errW_some] <;> rfl) | (simp only [← hji17]; first | rfl | (simp [errW_none, errW_some] <;> rfl)) | (simp [*, errW_none, errW_some] <;> rfl), bw HB⟩
         ·rw [if_neg c19] at H; exact absurd H (by simp)
        ·rw [if_neg c18] at H; exact absurd H (by simp)
       ·rw [if_neg c15] at H; exact absurd H (by simp)
      ·rw [if_neg c14] at H; exact absurd H (by simp)
     ·rw [if_neg c13] at H; have c13b0 : decide (0 ≤ t258) = false := decide_eq_false c13; clear c13
      (first | rw [c13b0] | (simp only [i64_w, i32_w]; rw [c13b0]) | skip)
      by_cases c34 : t259 < 0
      ·rw [if_pos c34] at H; have c34b0 : decide (t259 < 0) = true := decide_eq_true c34; clear c34; replace H := Option.bind_eq_some_iff.mp H; obtain ⟨⟨t270, t271⟩, A350, H⟩ := H; (try dsimp only at H); have A35 := Aside0.mk A350; clear A350
       by_cases c36 : t271 = true
       ·subst c36; (have H1 : (if x4_1 = true then ((r1_Reduce.f kj6 (decide (t270 > 0)) 0 t270 0 1).bind fun bt272 => (some (bt272.1, bt272.2.1, bt272.2.2))) else ((r1_Reduce.f kj6 false 0 t270 0 1).bind fun bt275 => (some (bt275.1, bt275.2.1, bt275.2.2)))) = some (r1, r2, r3) := by rw [if_pos rfl] at H; exact H); clear H; have H := H1; clear H1
        by_cases c37 : x4_1 = true
        ·subst c37; (have H1 : ((r1_Reduce.f kj6 (decide (t270 > 0)) 0 t270 0 1).bind fun bt272 => (some (bt272.1, bt272.2.1, bt272.2.2))) = some (r1, r2, r3) := by rw [if_pos rfl] at H; exact H); clear H; have H := H1; clear H1; replace H := Option.bind_eq_some_iff.mp H; obtain ⟨⟨t272, t273, t274⟩, A380, H⟩ := H; (try dsimp only at H); have A38 := Aside0.mk A380; clear A380; simp only [Option.some.injEq, Prod.mk.injEq] at H; obtain ⟨rfl, rfl, rfl⟩ := H; (go_wp2_with (first | ((with_reducible refine gate_callee (f := 61) rfl ?_); refine gl (some 78) Tryd.func61 #[.string x0_6, .int .i64 19] ?_; (with_reducible refine (r1_number.calls kj6 x0_6 19 t270 true _ A35.out).mono ?_); rintro e w' ⟨rfl, ⟨nd, rfl⟩⟩; refine ⟨_, rfl, ?_⟩; (try (rw [drewN_self wc]; generalize hq_ : World.drewN wc _ = wc; replace BK257 : Aside0 (wc.heap[gb257]? = some (.cells #[.int .i64 0, .int .i64 0] 24 (0, 0))) := ⟨by rw [← hq_]; exact (bq BK257)⟩; replace HB : Aside0 (Below w.heap.size w wc) := ⟨by rw [← hq_]; exact (bw HB)⟩; clear hq_))) | ((with_reducible refine gate_callee (f := 62) rfl ?_); refine gl (some 92) Tryd.func62 #[.bool (decide (t270 > 0)), .agg #[.int .u64 0, .int .u64 t270], .agg #[.int .u64 0, .int .u64 1]] ?_; (with_reducible refine (r1_Reduce.calls kj6 (decide (t270 > 0)) 0 t270 0 1 t272 t273 t274 _ A38.out).mono ?_); rintro e w39 ⟨rfl, hb⟩; refine ⟨_, rfl, ?_⟩; replace BK257 := kb BK257 hb; replace HB := wb HB hb; (try clear hb); (try clear hb2); (try clear hk); (try clear hi); have hcz40_0 : w39.cell? ⟨gb257, 0, none⟩ = some (.int .i64 0) := bc BK257 0; have hcz40_1 : w39.cell? ⟨gb257, 1, none⟩ = some (.int .i64 0) := bc BK257 1; have hfz40_0 := blk_frozen BK257.out 0; have hfz40_1 := blk_frozen BK257.out 1))); refine bodyPost_ret (results_ct rfl _ _ gb257 24 #[.int .i64 t272, .int .i64 t273] (0, 0) _ rfl (by refine pe ?_; refine blk_put (cs := #[.int .i64 t272, .int .i64 0]) ?_ 1 _ rfl; refine pe ?_; refine blk_put (cs := #[.int .i64 0, .int .i64 0]) ?_ 0 _ rfl; refine pe ?_; exact BK257.out) Tryd.underlying24 rfl (by kernel_rfl)) rfl ?_; exact ⟨by first | rfl | (simp [errW_none, errW_some] <;> rfl) | (simp [*, errW_none, errW_some] <;> rfl), bw HB⟩
        ·replace c37 := Bool.eq_false_iff.mpr c37; subst c37; (have H1 : ((r1_Reduce.f kj6 false 0 t270 0 1).bind fun bt275 => (some (bt275.1, bt275.2.1, bt275.2.2))) = some (r1, r2, r3) := by rw [if_neg (show ¬ (false = true) by decide)] at H; exact H); clear H; have H := H1; clear H1; replace H := Option.bind_eq_some_iff.mp H; obtain ⟨⟨t275, t276, t277⟩, A410, H⟩ := H; (try dsimp only at H); have A41 := Aside0.mk A410; clear A410; simp only [Option.some.injEq, Prod.mk.injEq] at H; obtain ⟨rfl, rfl, rfl⟩ := H; (go_wp2_with (first | ((with_reducible refine gate_callee (f := 61) rfl ?_); refine gl (some 78) Tryd.func61 #[.string x0_6, .int .i64 19] ?_; (with_reducible refine (r1_number.calls kj6 x0_6 19 t270 true _ A35.out).mono ?_); rintro e w' ⟨rfl, ⟨nd, rfl⟩⟩; refine ⟨_, rfl, ?_⟩; (try (rw [drewN_self wc]; generalize hq_ : World.drewN wc _ = wc; replace BK257 : Aside0 (wc.heap[gb257]? = some (.cells #[.int .i64 0, .int .i64 0] 24 (0, 0))) := ⟨by rw [← hq_]; exact (bq BK257)⟩; replace HB : Aside0 (Below w.heap.size w wc) := ⟨by rw [← hq_]; exact (bw HB)⟩; clear hq_))) | ((with_reducible refine gate_callee (f := 62) rfl ?_); refine gl (some 92) Tryd.func62 #[.bool false, .agg #[.int .u64 0, .int .u64 t270], .agg #[.int .u64 0, .int .u64 1]] ?_; (with_reducible refine (r1_Reduce.calls kj6 false 0 t270 0 1 t275 t276 t277 _ A41.out).mono ?_); rintro e w42 ⟨rfl, hb⟩; refine ⟨_, rfl, ?_⟩; replace BK257 := kb BK257 hb; replace HB := wb HB hb; (try clear hb); (try clear hb2); (try clear hk); (try clear hi); have hcz43_0 : w42.cell? ⟨gb257, 0, none⟩ = some (.int .i64 0) := bc BK257 0; have hcz43_1 : w42.cell? ⟨gb257, 1, none⟩ = some (.int .i64 0) := bc BK257 1; have hfz43_0 := blk_frozen BK257.out 0; have hfz43_1 := blk_frozen BK257.out 1))); refine bodyPost_ret (results_ct rfl _ _ gb257 24 #[.int .i64 t275, .int .i64 t276] (0, 0) _ rfl (by refine pe ?_; refine blk_put (cs := #[.int .i64 t275, .int .i64 0]) ?_ 1 _ rfl; refine pe ?_; refine blk_put (cs := #[.int .i64 0, .int .i64 0]) ?_ 0 _ rfl; refine pe ?_; exact BK257.out) Tryd.underlying24 rfl (by kernel_rfl)) rfl ?_; exact ⟨by first | rfl | (simp [errW_none, errW_some] <;> rfl) | (simp [*, errW_none, errW_some] <;> rfl), bw HB⟩
       ·replace c36 := Bool.eq_false_iff.mpr c36; subst c36; (have H1 : (some (0, 0, 7)) = some (r1, r2, r3) := by rw [if_neg (show ¬ (false = true) by decide)] at H; exact H); clear H; have H := H1; clear H1; simp only [Option.some.injEq, Prod.mk.injEq] at H; obtain ⟨rfl, rfl, rfl⟩ := H; (go_wp2_with (first | ((with_reducible refine gate_callee (f := 61) rfl ?_); refine gl (some 78) Tryd.func61 #[.string x0_6, .int .i64 19] ?_; (with_reducible refine (r1_number.calls kj6 x0_6 19 t270 false _ A35.out).mono ?_); rintro e w' ⟨rfl, ⟨nd, rfl⟩⟩; refine ⟨_, rfl, ?_⟩; (try (rw [drewN_self wc]; generalize hq_ : World.drewN wc _ = wc; replace BK257 : Aside0 (wc.heap[gb257]? = some (.cells #[.int .i64 0, .int .i64 0] 24 (0, 0))) := ⟨by rw [← hq_]; exact (bq BK257)⟩; replace HB : Aside0 (Below w.heap.size w wc) := ⟨by rw [← hq_]; exact (bw HB)⟩; clear hq_)); have hcz44_0 : wc.cell? ⟨gb257, 0, none⟩ = some (.int .i64 0) := bc BK257 0; have hcz44_1 : wc.cell? ⟨gb257, 1, none⟩ = some (.int .i64 0) := bc BK257 1; have hfz44_0 := blk_frozen BK257.out 0; have hfz44_1 := blk_frozen BK257.out 1))); refine bodyPost_ret (results_ct rfl _ _ gb257 24 #[.int .i64 0, .int .i64 0] (0, 0) _ rfl (by refine pe ?_; refine blk_put (cs := #[.int .i64 0, .int .i64 0]) ?_ 1 _ rfl; refine pe ?_; refine blk_put (cs := #[.int .i64 0, .int .i64 0]) ?_ 0 _ rfl; refine pe ?_; exact BK257.out) Tryd.underlying24 rfl (by kernel_rfl)) rfl ?_; exact ⟨by first | rfl | (simp [errW_none, errW_some] <;> rfl) | (simp [*, errW_none, errW_some] <;> rfl), bw HB⟩
      ·rw [if_neg c34] at H; have c34b0 : decide (t259 < 0) = false := decide_eq_false c34; clear c34
       by_cases c45 : 0 ≤ t259
       ·rw [if_pos c45] at H; have c45b0 := eq_true c45; have c45b1 : decide (0 ≤ t259) = true := decide_eq_true c45; clear c45
        by_cases c46 : t259 ≤ (x0_6.size : Int)
        ·rw [if_pos c46] at H; have c46b0 := eq_true c46; have c46b1 : decide (t259 ≤ (x0_6.size : Int)) = true := decide_eq_true c46; clear c46; replace H := Option.bind_eq_some_iff.mp H; obtain ⟨⟨t278, t279⟩, A470, H⟩ := H; (try dsimp only at H); have A47 := Aside0.mk A470; clear A470; obtain ⟨ji48, hji48⟩ : ∃ j_ : Int, (wrap64 (t259 + 1)) = j_ := ⟨_, rfl⟩; (replace H : (if 0 ≤ (ji48) then (if (ji48) ≤ (x0_6.size : Int) then ((r1_number.f kj6 (x0_6.extract ((ji48) : Int).toNat x0_6.size) 9).bind fun bt280 => (if t279 = true then (r1_Parse.j3 kj6 x0_6 x4_1 t259 t278 bt280.1 (!bt280.2)) else (r1_Parse.j3 kj6 x0_6 x4_1 t259 t278 bt280.1 true))) else (none)) else (none)) = some (r1, r2, r3) := by first | (rw [hji48] at H; exact H) | (simp only [hji48] at H ⊢; exact H)); (try rw [hji48] at A47); have hji48w : (IntKind.i64.wrap (t259 + 1)) = ji48 := (i64_w _).trans hji48
         by_cases c49 : 0 ≤ (ji48)
         ·rw [if_pos c49] at H; have c49b0 := eq_true c49; have c49b1 : decide (0 ≤ (ji48)) = true := decide_eq_true c49; clear c49
          by_cases c50 : (ji48) ≤ (x0_6.size : Int)
          ·rw [if_pos c50] at H; have c50b0 := eq_true c50; have c50b1 : decide ((ji48) ≤ (x0_6.size : Int)) = true := decide_eq_true c50; clear c50; replace H := Option.bind_eq_some_iff.mp H; obtain ⟨⟨t280, t281⟩, A510, H⟩ := H; (try dsimp only at H); have A51 := Aside0.mk A510; clear A510; have HC52 := Aside0.mk H; clear H
           go_upto_region 20 with (first | ((with_reducible refine gate_callee (f := 61) rfl ?_); refine gl (some 99) Tryd.func61 #[.string (x0_6.extract 0 (t259 : Int).toNat), .int .i64 19] ?_; (with_reducible refine (r1_number.calls kj6 (x0_6.extract 0 (t259 : Int).toNat) 19 t278 t279 _ A47.out).mono ?_); rintro e w' ⟨rfl, ⟨nd, rfl⟩⟩; refine ⟨_, rfl, ?_⟩) | ((with_reducible refine gate_callee (f := 61) rfl ?_); refine goesL_ (some 107) rfl rfl Tryd.func61 (by kernel_rfl) rfl #[.string (x0_6.extract ((ji48) : Int).toNat x0_6.size), .int .i64 9] rfl (by (try simp only [List.map_toArray, List.map_cons, List.map_nil]); first | done | (simp only [hji48]; rfl) | rfl | (simp only [List.length_drop, List.length_take]; rfl)) ?_; (with_reducible refine (r1_number.calls kj6 (x0_6.extract ((ji48) : Int).toNat x0_6.size) 9 t280 t281 _ A51.out).mono ?_); rintro e w' ⟨rfl, ⟨nd, rfl⟩⟩; refine ⟨_, rfl, ?_⟩))
           (try simp only [Act.put, List.setIfInBounds_toArray, List.set_cons_zero, List.set_cons_succ])
           go_cut [115] (fun v115 wc => ∃ (kq : Nat) (x115_51 : Bool), v115 = .bool x115_51 ∧ Aside0 (r1_Parse.j3 kq x0_6 x4_1 t259 t278 t280 x115_51 = some (r1, r2, r3)) ∧ Aside0 (kq ≤ kj6) ∧ Aside0 (wc.heap[gb257]? = some (.cells #[.int .i64 0, .int .i64 0] 24 (0, 0))) ∧ Aside0 (Below w.heap.size w wc))
           case first =>
            have H := HC52.out; clear HC52
            by_cases c53 : t279 = true
            ·subst c53; (have H1 : (r1_Parse.j3 kj6 x0_6 x4_1 t259 t278 t280 (!t281)) = some (r1, r2, r3) := by rw [if_pos rfl] at H; exact H); clear H; have H := H1; clear H1; have H' := Aside0.mk H; clear H; go_wp2
             go_meet
             case rel => exact ⟨_, (!t281), (by first | rfl | (simp; done) | (simp [*]; done)), H', ⟨by have := HJ1.out; have := HJ6.out; first | omega | exact Nat.le_refl _⟩, ⟨bq BK257⟩, ⟨bw HB⟩⟩
            ·replace c53 := Bool.eq_false_iff.mpr c53; subst c53; (have H1 : (r1_Parse.j3 kj6 x0_6 x4_1 t259 t278 t280 true) = some (r1, r2, r3) := by rw [if_neg (show ¬ (false = true) by decide)] at H; exact H); clear H; have H := H1; clear H1; have H' := Aside0.mk H; clear H; go_wp2
             go_meet
             case rel => exact ⟨_, (true), (by first | rfl | (simp; done) | (simp [*]; done)), H', ⟨by have := HJ1.out; have := HJ6.out; first | omega | exact Nat.le_refl _⟩, ⟨bq BK257⟩, ⟨bw HB⟩⟩
           case rest =>
            clear HC52; (try clear c1); (try clear c2); (try clear p2); (try clear c3); (try clear c4); (try clear c4b0); (try clear c4b1); (try clear c5); (try clear c5b0); (try clear c5b1); (try clear c6); (try clear p6); (try clear q6); (try clear hx6); (try clear qi6); (try clear c8); (try clear c9); (try clear c9b0); (try clear c9b1); (try clear c13); (try clear c13b0); (try clear c14); (try clear c14b0); (try clear c14b1); (try clear c15); (try clear c15b0); (try clear c15b1); (try clear c18); (try clear c18b0); (try clear c18b1); (try clear c19); (try clear c19b0); (try clear c19b1); (try clear c22); (try clear c23); (try clear c25); (try clear c25b0); (try clear c25b1); (try clear c27); (try clear c34); (try clear c34b0); (try clear c36); (try clear c37); (try clear c45); (try clear c45b0); (try clear c45b1); (try clear c46); (try clear c46b0); (try clear c46b1); (try clear c49); (try clear c49b0); (try clear c49b1); (try clear c50); (try clear c50b0); (try clear c50b1); (try clear c53); (try clear hcz24_0); (try clear hcz24_1); (try clear hcz26_0); (try clear hcz26_1); (try clear hcz30_0); (try clear hcz30_1); (try clear hcz33_0); (try clear hcz33_1); (try clear hcz40_0); (try clear hcz40_1); (try clear hcz43_0); (try clear hcz43_1); (try clear hcz44_0); (try clear hcz44_1); (try clear hfz24_0); (try clear hfz24_1); (try clear hfz26_0); (try clear hfz26_1); (try clear hfz30_0); (try clear hfz30_1); (try clear hfz33_0); (try clear hfz33_1); (try clear hfz40_0); (try clear hfz40_1); (try clear hfz43_0); (try clear hfz43_1); (try clear hfz44_0); (try clear hfz44_1); (try clear p2); (try clear p6); (try clear q6); obtain ⟨kq, x115_51, rfl, HA, HJ51, BK257, HB⟩ := hcut
            cases kq with
            | zero => exact absurd HA.out (by simp [r1_Parse.j3])
            | succ kj51 =>
             have H := HA.out; clear HA; simp only [r1_Parse.j3] at H
             by_cases c54 : x115_51 = true
             ·subst c54; (have H1 : (some (0, 0, 7)) = some (r1, r2, r3) := by rw [if_pos rfl] at H; exact H); clear H; have H := H1; clear H1; simp only [Option.some.injEq, Prod.mk.injEq] at H; obtain ⟨rfl, rfl, rfl⟩ := H; have hcz55_0 : wc.cell? ⟨gb257, 0, none⟩ = some (.int .i64 0) := bc BK257 0; have hcz55_1 : wc.cell? ⟨gb257, 1, none⟩ = some (.int .i64 0) := bc BK257 1; have hfz55_0 := blk_frozen BK257.out 0; have hfz55_1 := blk_frozen BK257.out 1; (go_wp2); refine bodyPost_ret (results_ct rfl _ _ gb257 24 #[.int .i64 0, .int .i64 0] (0, 0) _ rfl (by refine pe ?_; refine blk_put (cs := #[.int .i64 0, .int .i64 0]) ?_ 1 _ rfl; refine pe ?_; refine blk_put (cs := #[.int .i64 0, .int .i64 0]) ?_ 0 _ rfl; refine pe ?_; exact BK257.out) Tryd.underlying24 rfl (by kernel_rfl)) rfl ?_; exact ⟨by first | rfl | (simp [errW_none, errW_some] <;> rfl) | (simp only [← hji48]; first | rfl | (simp [errW_none, errW_some] <;> rfl)) | (simp [*, errW_none, errW_some] <;> rfl), bw HB⟩
             ·replace c54 := Bool.eq_false_iff.mpr c54; subst c54; (have H1 : (r1_Parse.l0 kj51 x0_6 x4_1 t278 t280 1 (wrap64 (t259 + 1))) = some (r1, r2, r3) := by rw [if_neg (show ¬ (false = true) by decide)] at H; exact H); clear H; have H := H1; clear H1; have H' := Aside0.mk H; clear H; (go_wp2); (try simp only [Act.put, List.setIfInBounds_toArray, List.set_cons_zero, List.set_cons_succ])
              go_loopg [17, 18] kj51 (fun kq v17 v18 w' => ∃ (x17_4 : Int) (x18_4 : Int), v17 = .int .u64 x17_4 ∧ v18 = .int .i64 x18_4 ∧ Aside0 (r1_Parse.l0 kq x0_6 x4_1 t278 t280 x17_4 x18_4 = some (r1, r2, r3)) ∧ Aside0 (kq ≤ kj51) ∧ Aside0 (w'.heap[gb257]? = some (.cells #[.int .i64 0, .int .i64 0] 24 (0, 0))) ∧ Aside0 (Below w.heap.size w w'))
              case atStart => exact ⟨(1), (wrap64 (t259 + 1)), (by first | rfl | (simp; done) | (simp [*]; done)), (by first | rfl | (simp; done) | (simp [*]; done)), H', ⟨Nat.le_refl _⟩, ⟨bq BK257⟩, ⟨bw HB⟩⟩
              case round =>
               clear H'; (try clear c1); (try clear c2); (try clear p2); (try clear c3); (try clear c4); (try clear c4b0); (try clear c4b1); (try clear c5); (try clear c5b0); (try clear c5b1); (try clear c6); (try clear p6); (try clear q6); (try clear hx6); (try clear qi6); (try clear c8); (try clear c9); (try clear c9b0); (try clear c9b1); (try clear c13); (try clear c13b0); (try clear c14); (try clear c14b0); (try clear c14b1); (try clear c15); (try clear c15b0); (try clear c15b1); (try clear c18); (try clear c18b0); (try clear c18b1); (try clear c19); (try clear c19b0); (try clear c19b1); (try clear c22); (try clear c23); (try clear c25); (try clear c25b0); (try clear c25b1); (try clear c27); (try clear c34); (try clear c34b0); (try clear c36); (try clear c37); (try clear c45); (try clear c45b0); (try clear c45b1); (try clear c46); (try clear c46b0); (try clear c46b1); (try clear c49); (try clear c49b0); (try clear c49b1); (try clear c50); (try clear c50b0); (try clear c50b1); (try clear c53); (try clear c54); (try clear hcz24_0); (try clear hcz24_1); (try clear hcz26_0); (try clear hcz26_1); (try clear hcz30_0); (try clear hcz30_1); (try clear hcz33_0); (try clear hcz33_1); (try clear hcz40_0); (try clear hcz40_1); (try clear hcz43_0); (try clear hcz43_1); (try clear hcz44_0); (try clear hcz44_1); (try clear hcz55_0); (try clear hcz55_1); (try clear hfz24_0); (try clear hfz24_1); (try clear hfz26_0); (try clear hfz26_1); (try clear hfz30_0); (try clear hfz30_1); (try clear hfz33_0); (try clear hfz33_1); (try clear hfz40_0); (try clear hfz40_1); (try clear hfz43_0); (try clear hfz43_1); (try clear hfz44_0); (try clear hfz44_1); (try clear hfz55_0); (try clear hfz55_1); (try clear p2); (try clear p6); (try clear q6); obtain ⟨x17_4, x18_4, rfl, rfl, HA, HK4, BK257, HB⟩ := hrel
               cases gk with
               | zero => exact absurd HA.out (by simp [r1_Parse.l0])
               | succ k4 =>
                have H := HA.out; clear HA; simp only [r1_Parse.l0] at H
                by_cases c56 : x18_4 < (x0_6.size : Int)
                ·rw [if_pos c56] at H; have c56b0 : decide (x18_4 < (x0_6.size : Int)) = true := decide_eq_true c56; clear c56; have H' := Aside0.mk H; clear H; go_wp2
                 go_roundg k4
                 case measure => have := HJ1.out; have := HJ6.out; have := HJ51.out; have := HK4.out; omega
                 case rel => exact ⟨(IntKind.u64.wrap (x17_4 * 10)), (wrap64 (x18_4 + 1)), (by first | rfl | (simp; done) | (simp [*]; done)), (by first | rfl | (simp; done) | (simp [*]; done)), H', ⟨by have := HJ1.out; have := HJ6.out; have := HJ51.out; have := HK4.out; omega⟩, ⟨bq BK257⟩, ⟨bw HB⟩⟩
                ·rw [if_neg c56] at H; have c56b0 : decide (x18_4 < (x0_6.size : Int)) = false := decide_eq_false c56; clear c56; replace H := Option.bind_eq_some_iff.mp H; obtain ⟨⟨t282, t283⟩, A570, H⟩ := H; (try dsimp only at H); have A57 := Aside0.mk A570; clear A570; replace H := Option.bind_eq_some_iff.mp H; obtain ⟨⟨t284, t285⟩, A580, H⟩ := H; (try dsimp only at H); have A58 := Aside0.mk A580; clear A580
                 by_cases c59 : x4_1 = true
                 ·subst c59; (have H1 : ((r1_Reduce.f k4 (!(t284 == 0) || (!(t285 == 0))) t284 t285 0 x17_4).bind fun bt287 => (some (bt287.1, bt287.2.1, bt287.2.2))) = some (r1, r2, r3) := by rw [if_pos rfl] at H; exact H); clear H; have H := H1; clear H1; replace H := Option.bind_eq_some_iff.mp H; obtain ⟨⟨t287, t288, t289⟩, A600, H⟩ := H; (try dsimp only at H); have A60 := Aside0.mk A600; clear A600; simp only [Option.some.injEq, Prod.mk.injEq] at H; obtain ⟨rfl, rfl, rfl⟩ := H; (try go_wp2_with (first | ((with_reducible refine gate_callee (f := 50) rfl ?_); refine gl (some 129) Tryd.func50 #[.int .u64 t278, .int .u64 x17_4] ?_; (with_reducible refine (r1_Product.calls t278 x17_4 t282 t283 _ A57.out).mono ?_); rintro e w61 ⟨rfl, hb⟩; refine ⟨_, rfl, ?_⟩; replace BK257 := kb BK257 hb; replace HB := wb HB hb; (try clear hb); (try clear hb2); (try clear hk); (try clear hi)) | ((with_reducible refine gate_callee (f := 53) rfl ?_); refine gl (some 132) Tryd.func53 #[.agg #[.int .u64 t282, .int .u64 t283], .agg #[.int .u64 0, .int .u64 t280]] ?_; (with_reducible refine (r1_Plus.calls t282 t283 0 t280 t284 t285 _ A58.out).mono ?_); rintro e w62 ⟨rfl, hb⟩; refine ⟨_, rfl, ?_⟩; replace BK257 := kb BK257 hb; replace HB := wb HB hb; (try clear hb); (try clear hb2); (try clear hk); (try clear hi)) | ((with_reducible refine gate_dst (N := 19) rfl ?_); refine bx (N := 19) (cs := #[.int .u64 0, .int .u64 0]) (t := 65) ?_; intro gb286 hg w63 hbox hb; have BK286 := Aside0.mk (hbox); have GW286 := gs HB hg; have GE286 := gs HB hg; have NB257_286 := nl BK257 hg; have NB286_257 := nr BK257 hg; replace BK257 := kb BK257 hb; replace HB := wb HB hb; clear hb hbox hg; obtain ⟨hnb64, hnc64⟩ := n2 NB286_257; have hcz65_0 : w63.cell? ⟨gb286, 0, none⟩ = some (.int .u64 0) := bc BK286 0; have hcz65_1 : w63.cell? ⟨gb286, 1, none⟩ = some (.int .u64 0) := bc BK286 1; have hfz65_0 := blk_frozen BK286.out 0; have hfz65_1 := blk_frozen BK286.out 1))); have n0_ : Aside0 (((w63.setCell ⟨gb286, 0, none⟩ (.int .u64 t284)).setCell ⟨gb286, 1, none⟩ (.int .u64 t285)).heap[gb257]? = some (.cells #[.int .i64 0, .int .i64 0] 24 (0, 0))) := ⟨bq BK257⟩; have n1_ : Aside0 (((w63.setCell ⟨gb286, 0, none⟩ (.int .u64 t284)).setCell ⟨gb286, 1, none⟩ (.int .u64 t285)).heap[gb286]? = some (.cells #[.int .u64 t284, .int .u64 t285] 65 (0, 0))) := ⟨by refine pe ?_; refine blk_put (cs := #[.int .u64 t284, .int .u64 0]) ?_ 1 _ rfl; refine pe ?_; refine blk_put (cs := #[.int .u64 0, .int .u64 0]) ?_ 0 _ rfl; refine pe ?_; exact BK286.out⟩; have n2_ : Aside0 (Below w.heap.size w ((w63.setCell ⟨gb286, 0, none⟩ (.int .u64 t284)).setCell ⟨gb286, 1, none⟩ (.int .u64 t285))) := ⟨bw HB⟩; (try clear BK257); (try clear BK286); (try clear HB); (generalize ((w63.setCell ⟨gb286, 0, none⟩ (.int .u64 t284)).setCell ⟨gb286, 1, none⟩ (.int .u64 t285)) = w66 at n0_ n1_ n2_ ⊢); have BK257 := n0_; have BK286 := n1_; have HB := n2_; clear n0_ n1_ n2_; have n0_ := Aside0.mk (blk_drew BK257.out); have n1_ := Aside0.mk (blk_drew BK286.out); have n2_ := Aside0.mk (below_drew1 HB.out); clear BK257; clear BK286; clear HB; have BK257 := n0_; have BK286 := n1_; have HB := n2_; clear n0_ n1_ n2_; refine start_ (n := 14) (S := fun w' => w'.cell? ⟨gb286, 0, none⟩ = some (.int .u64 t284) ∧ w'.cell? ⟨gb286, 1, none⟩ = some (.int .u64 t285)) (ds := []) #[false, false, false, false, false, false, false, false, false, false, false, false, false, false] (by kernel_rfl) rfl rfl ⟨bc BK286 0, bc BK286 1⟩ (fun hHeld => ?_); refine with_tabW r1_Parse.tab28 r1_Parse.bits28 (fun HT_ HW_ => ?_); (generalize w66.drew = w67 at BK257 BK286 HB hHeld ⊢); refine pure_ (i := 0) (N := some 133) (v := ?_) (a' := ?_) #[true, false, false, false, false, false, false, false, false, false, false, false, false, false] rfl rfl (any_of HT_.out (by kernel_rfl)) (fun _ _ _ h => h) (Or.inl ⟨by rfl, ?_⟩) ?_ ?_; rotate_left
                  ·intro w'; (go_simp); with_reducible rfl
                  rotate_left
                  ·simp only [Act.put, List.setIfInBounds_toArray, List.set_cons_zero, List.set_cons_succ, i64_w, i32_w]; rfl
                  refine pure_ (i := 1) (N := some 134) (v := ?_) (a' := ?_) #[true, true, false, false, false, false, false, false, false, false, false, false, false, false] rfl rfl (any_of HT_.out (by kernel_rfl)) (fun _ _ _ h => h) (Or.inl ⟨by rfl, ?_⟩) ?_ ?_; rotate_left
                  ·intro w'; (go_simp); with_reducible rfl
                  rotate_left
                  ·simp only [Act.put, List.setIfInBounds_toArray, List.set_cons_zero, List.set_cons_succ, i64_w, i32_w]; rfl
                  refine pure_ (i := 3) (N := some 136) (v := ?_) (a' := ?_) #[true, true, false, true, false, false, false, false, false, false, false, false, false, false] rfl rfl (any_of HT_.out (by kernel_rfl)) (fun _ _ _ h => h) (Or.inl ⟨by rfl, ?_⟩) ?_ ?_; rotate_left
                  ·intro w'; (go_simp); with_reducible rfl
                  rotate_left
                  ·simp only [Act.put, List.setIfInBounds_toArray, List.set_cons_zero, List.set_cons_succ, i64_w, i32_w]; rfl
                  refine pure_ (i := 7) (N := some 140) (v := ?_) (a' := ?_) #[true, true, false, true, false, false, false, true, false, false, false, false, false, false] rfl rfl (any_of HT_.out (by kernel_rfl)) (fun _ _ _ h => h) (Or.inl ⟨by rfl, ?_⟩) ?_ ?_; rotate_left
                  ·intro w'; (go_simp); with_reducible rfl
                  rotate_left
                  ·simp only [Act.put, List.setIfInBounds_toArray, List.set_cons_zero, List.set_cons_succ, i64_w, i32_w]; rfl
                  refine pure_ (i := 8) (N := some 141) (v := ?_) (a' := ?_) #[true, true, false, true, false, false, false, true, true, false, false, false, false, false] rfl rfl (any_of HT_.out (by kernel_rfl)) (fun _ _ _ h => h) (Or.inl ⟨by rfl, ?_⟩) ?_ ?_; rotate_left
                  ·intro w'; (go_simp); with_reducible rfl
                  rotate_left
                  ·simp only [Act.put, List.setIfInBounds_toArray, List.set_cons_zero, List.set_cons_succ, i64_w, i32_w]; rfl
                  refine take_ (i := 2) (N := some 135) (v := ?_) (a' := ?_) #[true, true, true, true, false, false, false, true, true, false, false, false, false, false] rfl rfl (take_ofW HT_.out HW_.out (by kernel_rfl)) (fun _ _ _ h => h) (Or.inl ⟨by rfl, ?_⟩) hHeld ?_ ?_; rotate_left
                  ·rintro w' ⟨s0, s1⟩; (go_simp); with_reducible rfl
                  rotate_left
                  ·simp only [Act.put, List.setIfInBounds_toArray, List.set_cons_zero, List.set_cons_succ, i64_w, i32_w]; rfl
                  refine pure_ (i := 4) (N := some 137) (v := ?_) (a' := ?_) #[true, true, true, true, true, false, false, true, true, false, false, false, false, false] rfl rfl (any_of HT_.out (by kernel_rfl)) (fun _ _ _ h => h) (Or.inl ⟨by rfl, ?_⟩) ?_ ?_; rotate_left
                  ·intro w'; (go_simp); with_reducible rfl
                  rotate_left
                  ·simp only [Act.put, List.setIfInBounds_toArray, List.set_cons_zero, List.set_cons_succ, i64_w, i32_w]; rfl
                  refine pure_ (i := 5) (N := some 138) (v := ?_) (a' := ?_) #[true, true, true, true, true, true, false, true, true, false, false, false, false, false] rfl rfl (any_of HT_.out (by kernel_rfl)) (fun _ _ _ h => h) (Or.inl ⟨by rfl, ?_⟩) ?_ ?_; rotate_left
                  ·intro w'; (go_simp); with_reducible rfl
                  rotate_left
                  ·simp only [Act.put, List.setIfInBounds_toArray, List.set_cons_zero, List.set_cons_succ, i64_w, i32_w]; rfl
                  refine take_ (i := 6) (N := some 139) (v := ?_) (a' := ?_) #[true, true, true, true, true, true, true, true, true, false, false, false, false, false] rfl rfl (take_ofW HT_.out HW_.out (by kernel_rfl)) (fun _ _ _ h => h) (Or.inl ⟨by rfl, ?_⟩) hHeld ?_ ?_; rotate_left
                  ·rintro w' ⟨s0, s1⟩; (go_simp); with_reducible rfl
                  rotate_left
                  ·simp only [Act.put, List.setIfInBounds_toArray, List.set_cons_zero, List.set_cons_succ, i64_w, i32_w]; rfl
                  refine one_ (i := 9) (N := some 142) #[true, true, true, true, true, true, true, true, true, true, false, false, false, false] rfl rfl (one_of HT_.out (by kernel_rfl)) (by decide) (fun K hK => ?_); refine gz Tryd.func62 #[.bool (!(t284 == 0) || (!(t285 == 0))), .agg #[.int .u64 t284, .int .u64 t285], .agg #[.int .u64 0, .int .u64 x17_4]] ?_; (with_reducible refine (r1_Reduce.calls k4 (!(t284 == 0) || (!(t285 == 0))) t284 t285 0 x17_4 t287 t288 t289 _ A60.out).mono ?_); rintro e w68 ⟨rfl, hb⟩; refine ⟨_, rfl, ?_⟩; have n0_ := kb BK257 hb; have n1_ := kb BK286 hb; have n2_ := wb HB hb; clear BK257; clear BK286; clear HB; have BK257 := n0_; have BK286 := n1_; have HB := n2_; clear n0_ n1_ n2_; (try clear hb); (try clear hb2); (try clear hk); (try clear hi); refine hK.out _ _ ⟨bc BK286 0, bc BK286 1⟩ (fun hHeld => ?_); clear hK K; refine norm_ (a' := ?_) ?_ ?_; rotate_left
                  ·show Act.put _ (some 142) _ = _; simp only [Act.put, List.setIfInBounds_toArray, List.set_cons_zero, List.set_cons_succ, i64_w, i32_w]; rfl
                  refine pure_ (i := 10) (N := some 143) (v := ?_) (a' := ?_) #[true, true, true, true, true, true, true, true, true, true, true, false, false, false] rfl rfl (any_of HT_.out (by kernel_rfl)) (fun _ _ _ h => h) (Or.inl ⟨by rfl, ?_⟩) ?_ ?_; rotate_left
                  ·intro w'; (go_simp); with_reducible rfl
                  rotate_left
                  ·simp only [Act.put, List.setIfInBounds_toArray, List.set_cons_zero, List.set_cons_succ, i64_w, i32_w]; rfl
                  refine pure_ (i := 11) (N := some 144) (v := ?_) (a' := ?_) #[true, true, true, true, true, true, true, true, true, true, true, true, false, false] rfl rfl (any_of HT_.out (by kernel_rfl)) (fun _ _ _ h => h) (Or.inl ⟨by rfl, ?_⟩) ?_ ?_; rotate_left
                  ·intro w'; (go_simp); with_reducible rfl
                  rotate_left
                  ·simp only [Act.put, List.setIfInBounds_toArray, List.set_cons_zero, List.set_cons_succ, i64_w, i32_w]; rfl
                  refine one_ (i := 12) (N := none) #[true, true, true, true, true, true, true, true, true, true, true, true, true, false] rfl rfl (one_of HT_.out (by kernel_rfl)) (by decide) (fun K hK => ?_); have hs69 : w68.cell? ⟨gb257, 0, none⟩ = some (.int .i64 0) := bc BK257 0; have hfs69 := blk_frozen BK257.out 0; have hns69_1 := NB286_257.out; have hms69_1 := NB257_286.out; have hs70 : w68.cell? ⟨gb257, 1, none⟩ = some (.int .i64 0) := bc BK257 1; have hfs70 := blk_frozen BK257.out 1; have hns70_1 := NB286_257.out; have hms70_1 := NB257_286.out; refine skip_ (w1 := ?_) (by rfl) rfl ?_ ?_; rotate_left
                  ·(go_simp); rfl
                  refine hK.out _ _ ⟨((cell_far (p := ⟨gb257, _, none⟩) NB286_257.out _).trans (((cell_far (p := ⟨gb257, _, none⟩) NB286_257.out _).trans (hHeld.1)))), ((cell_far (p := ⟨gb257, _, none⟩) NB286_257.out _).trans (((cell_far (p := ⟨gb257, _, none⟩) NB286_257.out _).trans (hHeld.2))))⟩ (fun hHeld => ?_); clear hK K; refine pure_ (i := 13) (N := some 3) (v := ?_) (a' := ?_) #[true, true, true, true, true, true, true, true, true, true, true, true, true, true] rfl rfl (any_of HT_.out (by kernel_rfl)) (fun _ _ _ h => h) (Or.inl ⟨by rfl, ?_⟩) ?_ ?_; rotate_left
                  ·intro w'; (go_simp); with_reducible rfl
                  rotate_left
                  ·simp only [Act.put, List.setIfInBounds_toArray, List.set_cons_zero, List.set_cons_succ, i64_w, i32_w]; rfl
                  refine done_ (done_of HT_.out (by kernel_rfl)) ?_; (try go_wp2); refine bodyPost_ret (results_ct rfl _ _ gb257 24 #[.int .i64 t287, .int .i64 t288] (0, 0) _ rfl (by refine pe ?_; refine blk_put (cs := #[.int .i64 t287, .int .i64 0]) ?_ 1 _ rfl; refine pe ?_; refine blk_put (cs := #[.int .i64 0, .int .i64 0]) ?_ 0 _ rfl; refine pe ?_; exact BK257.out) Tryd.underlying24 rfl (by kernel_rfl)) rfl ?_; exact ⟨by first | rfl | (simp [errW_none, errW_some] <;> rfl) | (simp only [← hji48]; first | rfl | (simp [errW_none, errW_some] <;> rfl)) | (simp [*, errW_none, errW_some] <;> rfl), bw HB⟩
                 ·replace c59 := Bool.eq_false_iff.mpr c59; subst c59; (have H1 : ((r1_Reduce.f k4 false t284 t285 0 x17_4).bind fun bt290 => (some (bt290.1, bt290.2.1, bt290.2.2))) = some (r1, r2, r3) := by rw [if_neg (show ¬ (false = true) by decide)] at H; exact H); clear H; have H := H1; clear H1; replace H := Option.bind_eq_some_iff.mp H; obtain ⟨⟨t290, t291, t292⟩, A710, H⟩ := H; (try dsimp only at H); have A71 := Aside0.mk A710; clear A710; simp only [Option.some.injEq, Prod.mk.injEq] at H; obtain ⟨rfl, rfl, rfl⟩ := H; (try go_wp2_with (first | ((with_reducible refine gate_callee (f := 50) rfl ?_); refine gl (some 129) Tryd.func50 #[.int .u64 t278, .int .u64 x17_4] ?_; (with_reducible refine (r1_Product.calls t278 x17_4 t282 t283 _ A57.out).mono ?_); rintro e w72 ⟨rfl, hb⟩; refine ⟨_, rfl, ?_⟩; replace BK257 := kb BK257 hb; replace HB := wb HB hb; (try clear hb); (try clear hb2); (try clear hk); (try clear hi)) | ((with_reducible refine gate_callee (f := 53) rfl ?_); refine gl (some 132) Tryd.func53 #[.agg #[.int .u64 t282, .int .u64 t283], .agg #[.int .u64 0, .int .u64 t280]] ?_; (with_reducible refine (r1_Plus.calls t282 t283 0 t280 t284 t285 _ A58.out).mono ?_); rintro e w73 ⟨rfl, hb⟩; refine ⟨_, rfl, ?_⟩; replace BK257 := kb BK257 hb; replace HB := wb HB hb; (try clear hb); (try clear hb2); (try clear hk); (try clear hi)) | ((with_reducible refine gate_dst (N := 19) rfl ?_); refine bx (N := 19) (cs := #[.int .u64 0, .int .u64 0]) (t := 65) ?_; intro gb286 hg w74 hbox hb; have BK286 := Aside0.mk (hbox); have GW286 := gs HB hg; have GE286 := gs HB hg; have NB257_286 := nl BK257 hg; have NB286_257 := nr BK257 hg; replace BK257 := kb BK257 hb; replace HB := wb HB hb; clear hb hbox hg; obtain ⟨hnb75, hnc75⟩ := n2 NB286_257; have hcz76_0 : w74.cell? ⟨gb286, 0, none⟩ = some (.int .u64 0) := bc BK286 0; have hcz76_1 : w74.cell? ⟨gb286, 1, none⟩ = some (.int .u64 0) := bc BK286 1; have hfz76_0 := blk_frozen BK286.out 0; have hfz76_1 := blk_frozen BK286.out 1))); have n0_ : Aside0 (((w74.setCell ⟨gb286, 0, none⟩ (.int .u64 t284)).setCell ⟨gb286, 1, none⟩ (.int .u64 t285)).heap[gb257]? = some (.cells #[.int .i64 0, .int .i64 0] 24 (0, 0))) := ⟨bq BK257⟩; have n1_ : Aside0 (((w74.setCell ⟨gb286, 0, none⟩ (.int .u64 t284)).setCell ⟨gb286, 1, none⟩ (.int .u64 t285)).heap[gb286]? = some (.cells #[.int .u64 t284, .int .u64 t285] 65 (0, 0))) := ⟨by refine pe ?_; refine blk_put (cs := #[.int .u64 t284, .int .u64 0]) ?_ 1 _ rfl; refine pe ?_; refine blk_put (cs := #[.int .u64 0, .int .u64 0]) ?_ 0 _ rfl; refine pe ?_; exact BK286.out⟩; have n2_ : Aside0 (Below w.heap.size w ((w74.setCell ⟨gb286, 0, none⟩ (.int .u64 t284)).setCell ⟨gb286, 1, none⟩ (.int .u64 t285))) := ⟨bw HB⟩; (try clear BK257); (try clear BK286); (try clear HB); (generalize ((w74.setCell ⟨gb286, 0, none⟩ (.int .u64 t284)).setCell ⟨gb286, 1, none⟩ (.int .u64 t285)) = w77 at n0_ n1_ n2_ ⊢); have BK257 := n0_; have BK286 := n1_; have HB := n2_; clear n0_ n1_ n2_; have n0_ := Aside0.mk (blk_drew BK257.out); have n1_ := Aside0.mk (blk_drew BK286.out); have n2_ := Aside0.mk (below_drew1 HB.out); clear BK257; clear BK286; clear HB; have BK257 := n0_; have BK286 := n1_; have HB := n2_; clear n0_ n1_ n2_; refine start_ (n := 14) (S := fun w' => w'.cell? ⟨gb286, 0, none⟩ = some (.int .u64 t284) ∧ w'.cell? ⟨gb286, 1, none⟩ = some (.int .u64 t285)) (ds := []) #[false, false, false, false, false, false, false, false, false, false, false, false, false, false] (by kernel_rfl) rfl rfl ⟨bc BK286 0, bc BK286 1⟩ (fun hHeld => ?_); refine with_tabW r1_Parse.tab28 r1_Parse.bits28 (fun HT_ HW_ => ?_); (generalize w77.drew = w78 at BK257 BK286 HB hHeld ⊢); refine pure_ (i := 0) (N := some 133) (v := ?_) (a' := ?_) #[true, false, false, false, false, false, false, false, false, false, false, false, false, false] rfl rfl (any_of HT_.out (by kernel_rfl)) (fun _ _ _ h => h) (Or.inl ⟨by rfl, ?_⟩) ?_ ?_; rotate_left
                  ·intro w'; (go_simp); with_reducible rfl
                  rotate_left
                  ·simp only [Act.put, List.setIfInBounds_toArray, List.set_cons_zero, List.set_cons_succ, i64_w, i32_w]; rfl
                  refine pure_ (i := 1) (N := some 134) (v := ?_) (a' := ?_) #[true, true, false, false, false, false, false, false, false, false, false, false, false, false] rfl rfl (any_of HT_.out (by kernel_rfl)) (fun _ _ _ h => h) (Or.inl ⟨by rfl, ?_⟩) ?_ ?_; rotate_left
                  ·intro w'; (go_simp); with_reducible rfl
                  rotate_left
                  ·simp only [Act.put, List.setIfInBounds_toArray, List.set_cons_zero, List.set_cons_succ, i64_w, i32_w]; rfl
                  refine pure_ (i := 2) (N := some 135) (v := undef) (a' := ?_) #[true, true, true, false, false, false, false, false, false, false, false, false, false, false] rfl rfl (any_of HT_.out (by kernel_rfl)) (fun _ _ _ h => h) (Or.inr ⟨by rfl, rfl⟩) ?_ ?_; rotate_left
                  ·simp only [Act.put, List.setIfInBounds_toArray, List.set_cons_zero, List.set_cons_succ, i64_w, i32_w]; rfl
                  refine pure_ (i := 3) (N := some 136) (v := undef) (a' := ?_) #[true, true, true, true, false, false, false, false, false, false, false, false, false, false] rfl rfl (any_of HT_.out (by kernel_rfl)) (fun _ _ _ h => h) (Or.inr ⟨by rfl, rfl⟩) ?_ ?_; rotate_left
                  ·simp only [Act.put, List.setIfInBounds_toArray, List.set_cons_zero, List.set_cons_succ, i64_w, i32_w]; rfl
                  refine pure_ (i := 4) (N := some 137) (v := undef) (a' := ?_) #[true, true, true, true, true, false, false, false, false, false, false, false, false, false] rfl rfl (any_of HT_.out (by kernel_rfl)) (fun _ _ _ h => h) (Or.inr ⟨by rfl, rfl⟩) ?_ ?_; rotate_left
                  ·simp only [Act.put, List.setIfInBounds_toArray, List.set_cons_zero, List.set_cons_succ, i64_w, i32_w]; rfl
                  refine pure_ (i := 5) (N := some 138) (v := ?_) (a' := ?_) #[true, true, true, true, true, true, false, false, false, false, false, false, false, false] rfl rfl (any_of HT_.out (by kernel_rfl)) (fun _ _ _ h => h) (Or.inl ⟨by rfl, ?_⟩) ?_ ?_; rotate_left
                  ·intro w'; (go_simp); with_reducible rfl
                  rotate_left
                  ·simp only [Act.put, List.setIfInBounds_toArray, List.set_cons_zero, List.set_cons_succ, i64_w, i32_w]; rfl
                  refine pure_ (i := 7) (N := some 140) (v := ?_) (a' := ?_) #[true, true, true, true, true, true, false, true, false, false, false, false, false, false] rfl rfl (any_of HT_.out (by kernel_rfl)) (fun _ _ _ h => h) (Or.inl ⟨by rfl, ?_⟩) ?_ ?_; rotate_left
                  ·intro w'; (go_simp); with_reducible rfl
                  rotate_left
                  ·simp only [Act.put, List.setIfInBounds_toArray, List.set_cons_zero, List.set_cons_succ, i64_w, i32_w]; rfl
                  refine pure_ (i := 8) (N := some 141) (v := ?_) (a' := ?_) #[true, true, true, true, true, true, false, true, true, false, false, false, false, false] rfl rfl (any_of HT_.out (by kernel_rfl)) (fun _ _ _ h => h) (Or.inl ⟨by rfl, ?_⟩) ?_ ?_; rotate_left
                  ·intro w'; (go_simp); with_reducible rfl
                  rotate_left
                  ·simp only [Act.put, List.setIfInBounds_toArray, List.set_cons_zero, List.set_cons_succ, i64_w, i32_w]; rfl
                  refine take_ (i := 6) (N := some 139) (v := ?_) (a' := ?_) #[true, true, true, true, true, true, true, true, true, false, false, false, false, false] rfl rfl (take_ofW HT_.out HW_.out (by kernel_rfl)) (fun _ _ _ h => h) (Or.inl ⟨by rfl, ?_⟩) hHeld ?_ ?_; rotate_left
                  ·rintro w' ⟨s0, s1⟩; (go_simp); with_reducible rfl
                  rotate_left
                  ·simp only [Act.put, List.setIfInBounds_toArray, List.set_cons_zero, List.set_cons_succ, i64_w, i32_w]; rfl
                  refine one_ (i := 9) (N := some 142) #[true, true, true, true, true, true, true, true, true, true, false, false, false, false] rfl rfl (one_of HT_.out (by kernel_rfl)) (by decide) (fun K hK => ?_); refine gz Tryd.func62 #[.bool false, .agg #[.int .u64 t284, .int .u64 t285], .agg #[.int .u64 0, .int .u64 x17_4]] ?_; (with_reducible refine (r1_Reduce.calls k4 false t284 t285 0 x17_4 t290 t291 t292 _ A71.out).mono ?_); rintro e w79 ⟨rfl, hb⟩; refine ⟨_, rfl, ?_⟩; have n0_ := kb BK257 hb; have n1_ := kb BK286 hb; have n2_ := wb HB hb; clear BK257; clear BK286; clear HB; have BK257 := n0_; have BK286 := n1_; have HB := n2_; clear n0_ n1_ n2_; (try clear hb); (try clear hb2); (try clear hk); (try clear hi); refine hK.out _ _ ⟨bc BK286 0, bc BK286 1⟩ (fun hHeld => ?_); clear hK K; refine norm_ (a' := ?_) ?_ ?_; rotate_left
                  ·show Act.put _ (some 142) _ = _; simp only [Act.put, List.setIfInBounds_toArray, List.set_cons_zero, List.set_cons_succ, i64_w, i32_w]; rfl
                  refine pure_ (i := 10) (N := some 143) (v := ?_) (a' := ?_) #[true, true, true, true, true, true, true, true, true, true, true, false, false, false] rfl rfl (any_of HT_.out (by kernel_rfl)) (fun _ _ _ h => h) (Or.inl ⟨by rfl, ?_⟩) ?_ ?_; rotate_left
                  ·intro w'; (go_simp); with_reducible rfl
                  rotate_left
                  ·simp only [Act.put, List.setIfInBounds_toArray, List.set_cons_zero, List.set_cons_succ, i64_w, i32_w]; rfl
                  refine pure_ (i := 11) (N := some 144) (v := ?_) (a' := ?_) #[true, true, true, true, true, true, true, true, true, true, true, true, false, false] rfl rfl (any_of HT_.out (by kernel_rfl)) (fun _ _ _ h => h) (Or.inl ⟨by rfl, ?_⟩) ?_ ?_; rotate_left
                  ·intro w'; (go_simp); with_reducible rfl
                  rotate_left
                  ·simp only [Act.put, List.setIfInBounds_toArray, List.set_cons_zero, List.set_cons_succ, i64_w, i32_w]; rfl
                  refine one_ (i := 12) (N := none) #[true, true, true, true, true, true, true, true, true, true, true, true, true, false] rfl rfl (one_of HT_.out (by kernel_rfl)) (by decide) (fun K hK => ?_); have hs80 : w79.cell? ⟨gb257, 0, none⟩ = some (.int .i64 0) := bc BK257 0; have hfs80 := blk_frozen BK257.out 0; have hns80_1 := NB286_257.out; have hms80_1 := NB257_286.out; have hs81 : w79.cell? ⟨gb257, 1, none⟩ = some (.int .i64 0) := bc BK257 1; have hfs81 := blk_frozen BK257.out 1; have hns81_1 := NB286_257.out; have hms81_1 := NB257_286.out; refine skip_ (w1 := ?_) (by rfl) rfl ?_ ?_; rotate_left
                  ·(go_simp); rfl
                  refine hK.out _ _ ⟨((cell_far (p := ⟨gb257, _, none⟩) NB286_257.out _).trans (((cell_far (p := ⟨gb257, _, none⟩) NB286_257.out _).trans (hHeld.1)))), ((cell_far (p := ⟨gb257, _, none⟩) NB286_257.out _).trans (((cell_far (p := ⟨gb257, _, none⟩) NB286_257.out _).trans (hHeld.2))))⟩ (fun hHeld => ?_); clear hK K; refine pure_ (i := 13) (N := some 3) (v := ?_) (a' := ?_) #[true, true, true, true, true, true, true, true, true, true, true, true, true, true] rfl rfl (any_of HT_.out (by kernel_rfl)) (fun _ _ _ h => h) (Or.inl ⟨by rfl, ?_⟩) ?_ ?_; rotate_left
                  ·intro w'; (go_simp); with_reducible rfl
                  rotate_left
                  ·simp only [Act.put, List.setIfInBounds_toArray, List.set_cons_zero, List.set_cons_succ, i64_w, i32_w]; rfl
                  refine done_ (done_of HT_.out (by kernel_rfl)) ?_; (try go_wp2); refine bodyPost_ret (results_ct rfl _ _ gb257 24 #[.int .i64 t290, .int .i64 t291] (0, 0) _ rfl (by refine pe ?_; refine blk_put (cs := #[.int .i64 t290, .int .i64 0]) ?_ 1 _ rfl; refine pe ?_; refine blk_put (cs := #[.int .i64 0, .int .i64 0]) ?_ 0 _ rfl; refine pe ?_; exact BK257.out) Tryd.underlying24 rfl (by kernel_rfl)) rfl ?_; exact ⟨by first | rfl | (simp [errW_none, errW_some] <;> rfl) | (simp only [← hji48]; first | rfl | (simp [errW_none, errW_some] <;> rfl)) | (simp [*, errW_none, errW_some] <;> rfl), bw HB⟩
          ·rw [if_neg c50] at H; exact absurd H (by simp)
         ·rw [if_neg c49] at H; exact absurd H (by simp)
        ·rw [if_neg c46] at H; exact absurd H (by simp)
       ·rw [if_neg c45] at H; exact absurd H (by simp)

end Go.Proofs.YtbapkiclgkddcaaDoor.G

-- Printed by gp.py (a program of this session's own, over the kit's printer) out of the translation; Lean checks it.
namespace Go.Proofs.YtbapkiclgkddcaaDoor.G
open Go.Proofs.YtbapkiclgkddcaaDoor.Given Go.Proofs.YtbapkiclgkddcaaDoor.Short
open Go.RowKit Go.Proofs.YtbapkiclgkddcaaDoorW.PrintWords Go.Proofs.YtbapkiclgkddcaaDoorW.PrintLast Go.Proofs.YtbapkiclgkddcaaDoorW.PrintMore
attribute [local go_sem] max2_int min2_int max_two min_two max_three min_three max_four min_four   -- for this text's walks alone
set_option linter.unusedVariables false
set_option linter.unusedSimpArgs false

attribute [local go_sem high] eqA24
/-! ### awardingbodylaw01_RatioParses: function 6 -/
def awardingbodylaw01_RatioParses.f (k : Nat) (a0 : ByteArray) : Option (Bool) := if (a0.size : Int) > 60 then (some true) else ((ratio_Parse.f k a0).bind fun bt293 => ((r1_Parse.f k a0).bind fun bt297 => (if (bt293.1 == bt297.1 && (bt293.2.1 == bt297.2.1)) = true then (if bt293.2.2 = bt297.2.2 then ((awardingbodylaw01_awake.f k).bind fun t301 => (some t301)) else (some false)) else (some false))))
theorem awardingbodylaw01_RatioParses.mono : ∀ a0 k, LeO (awardingbodylaw01_RatioParses.f k a0) (awardingbodylaw01_RatioParses.f (k + 1) a0) := by
 intro a0 k; unfold awardingbodylaw01_RatioParses.f
 repeat' first
   | (with_reducible exact awardingbodylaw01_awake.mono _)
   | (with_reducible exact r1_Parse.mono _ _)
   | (with_reducible exact ratio_Parse.mono _ _)
   | (with_reducible exact LeO.refl _)
   | (with_reducible exact LeO.none _)
   | (with_reducible refine LeO.ite ?_ ?_)
   | (with_reducible refine LeO.bind ?_ (fun _ => ?_))
   | exact awardingbodylaw01_awake.mono _
   | exact r1_Parse.mono _ _
   | exact ratio_Parse.mono _ _
   | exact LeO.none _
   | refine LeO.ite ?_ ?_
   | refine LeO.bind ?_ (fun _ => ?_)
set_option maxHeartbeats 8000000 in
set_option maxRecDepth 100000 in
theorem awardingbodylaw01_RatioParses.calls (k : Nat) (a0 : ByteArray) (r : Bool) (w : World) (h : awardingbodylaw01_RatioParses.f k a0 = some r) :
  Calls Tryd.prog 6 #[.string a0] w fun e w' => e = .returned (.bool r) ∧ Below w.heap.size w w' := by
 have hu24 := Tryd.underlying24; have HB := Aside0.mk (Below.refl w.heap.size w); have H : (if (a0.size : Int) > 60 then (some true) else ((ratio_Parse.f k a0).bind fun bt293 => ((r1_Parse.f k a0).bind fun bt297 => (if (bt293.1 == bt297.1 && (bt293.2.1 == bt297.2.1)) = true then (if bt293.2.2 = bt297.2.2 then ((awardingbodylaw01_awake.f k).bind fun t301 => (some t301)) else (some false)) else (some false))))) = some r := h; clear h
 by_cases c2 : (a0.size : Int) > 60
 ·rw [if_pos c2] at H; have c2b0 : decide (60 < (a0.size : Int)) = true := decide_eq_true c2; have c2b1 : decide (60 < a0.size) = true := decide_eq_true (by omega); clear c2; obtain rfl := Option.some.inj H; (go_enter Tryd.func6, Tryd.ntmps6); (go_wp2); (go_ret); exact ⟨by first | rfl | (simp [errW_none, errW_some] <;> rfl) | (simp [*, errW_none, errW_some] <;> rfl), bw HB⟩
 ·rw [if_neg c2] at H; have c2b0 : decide (60 < (a0.size : Int)) = false := decide_eq_false c2; have c2b1 : decide (60 < a0.size) = false := decide_eq_false (by omega); clear c2; replace H := Option.bind_eq_some_iff.mp H; obtain ⟨⟨t293, t294, t295⟩, A30, H⟩ := H; (try dsimp only at H); have A3 := Aside0.mk A30; clear A30; replace H := Option.bind_eq_some_iff.mp H; obtain ⟨⟨t297, t298, t299⟩, A40, H⟩ := H; (try dsimp only at H); have A4 := Aside0.mk A40; clear A40; have HC5 := Aside0.mk H; clear H; go_enter Tryd.func6, Tryd.ntmps6
  go_upto_region 5 with (first | ((with_reducible refine gate_callee (f := 26) rfl ?_); refine gl (some 12) Tryd.func26 #[.string a0] ?_; (with_reducible refine (ratio_Parse.calls k a0 t293 t294 t295 _ A3.out).mono ?_); rintro e w6 ⟨rfl, hb⟩; refine ⟨_, rfl, ?_⟩; replace HB := wb HB hb; (try clear hb); (try clear hb2); (try clear hk); (try clear hi)) | ((with_reducible refine gate_dst (N := 3) rfl ?_); refine bx (N := 3) (cs := #[.int .i64 0, .int .i64 0]) (t := 24) ?_; intro gb296 hg w7 hbox hb; have BK296 := Aside0.mk (hbox); have GW296 := gs HB hg; have GE296 := gs HB hg; replace HB := wb HB hb; clear hb hbox hg; have hcz8_0 : w7.cell? ⟨gb296, 0, none⟩ = some (.int .i64 0) := bc BK296 0; have hcz8_1 : w7.cell? ⟨gb296, 1, none⟩ = some (.int .i64 0) := bc BK296 1; have hfz8_0 := blk_frozen BK296.out 0; have hfz8_1 := blk_frozen BK296.out 1) | ((with_reducible refine gate_callee (f := 27) rfl ?_); refine gl (some 17) Tryd.func27 #[.string a0] ?_; (with_reducible refine (r1_Parse.calls k a0 t297 t298 t299 _ A4.out).mono ?_); rintro e w9 ⟨rfl, hb⟩; refine ⟨_, rfl, ?_⟩; replace BK296 := Aside0.mk (blk_below (g := gb296) (o := .cells #[.int .i64 t293, .int .i64 t294] 24 (0, 0)) (by refine pe ?_; refine blk_put (cs := #[.int .i64 t293, .int .i64 0]) ?_ 1 _ rfl; refine pe ?_; refine blk_put (cs := #[.int .i64 0, .int .i64 0]) ?_ 0 _ rfl; refine pe ?_; exact BK296.out) hb); replace HB := wb HB hb; (try clear hb); (try clear hb2); (try clear hk); (try clear hi)) | ((with_reducible refine gate_dst (N := 5) rfl ?_); refine bx (N := 5) (cs := #[.int .i64 0, .int .i64 0]) (t := 24) ?_; intro gb300 hg w10 hbox hb; have BK300 := Aside0.mk (hbox); have GW300 := gs HB hg; have GE300 := gs HB hg; have NB296_300 := nl BK296 hg; have NB300_296 := nr BK296 hg; replace BK296 := kb BK296 hb; replace HB := wb HB hb; clear hb hbox hg; obtain ⟨hnb11, hnc11⟩ := n2 NB300_296; have hcz12_0 : w10.cell? ⟨gb300, 0, none⟩ = some (.int .i64 0) := bc BK300 0; have hcz12_1 : w10.cell? ⟨gb300, 1, none⟩ = some (.int .i64 0) := bc BK300 1; have hfz12_0 := blk_frozen BK300.out 0; have hfz12_1 := blk_frozen BK300.out 1))
  (try simp only [Act.put, List.setIfInBounds_toArray, List.set_cons_zero, List.set_cons_succ]); have H := HC5.out; clear HC5
  by_cases c13 : (t293 == t297 && (t294 == t298)) = true
  ·rw [if_pos c13] at H; have c13b0 : (t293 == t297 && (t294 == t298)) = true := c13; (try (have c13b1 : decide (t293 = t297 && (t294 == t298)) = true := by simpa using c13)); (try (have c13b2 : (t293 == t297 && (t294 == t298)) = true := by simpa using c13)); clear c13
   (first | rw [c13b0] | (simp only [i64_w, i32_w]; rw [c13b0]) | skip)
   by_cases c14 : t295 = t299
   ·rw [if_pos c14] at H; have c14b0 : (t295 == t299) = true := beq_iff_eq.mpr c14; have c14b1 : (t295 != t299) = false := bne_eq_false_iff_eq.mpr c14; clear c14; replace H := Option.bind_eq_some_iff.mp H; obtain ⟨t301, A150, H⟩ := H; (try dsimp only at H); have A15 := Aside0.mk A150; clear A150; obtain rfl := Option.some.inj H; obtain ⟨hnb16, hnc16⟩ := n2 NB296_300; have hcz17_0 : w10.cell? ⟨gb296, 0, none⟩ = some (.int .i64 t293) := bc BK296 0; have hcz17_1 : w10.cell? ⟨gb296, 1, none⟩ = some (.int .i64 t294) := bc BK296 1; have hfz17_0 := blk_frozen BK296.out 0; have hfz17_1 := blk_frozen BK296.out 1; have hcz18_0 : w10.cell? ⟨gb300, 0, none⟩ = some (.int .i64 0) := bc BK300 0; have hcz18_1 : w10.cell? ⟨gb300, 1, none⟩ = some (.int .i64 0) := bc BK300 1; have hfz18_0 := blk_frozen BK300.out 0; have hfz18_1 := blk_frozen BK300.out 1; (go_wp2_with (first | (go_at_call 18; (with_reducible refine (awardingbodylaw01_awake.calls k  t301 _ A15.out).mono ?_); rintro e w19 ⟨rfl, hb⟩; replace BK296 := kb BK296 hb; replace BK300 := Aside0.mk (blk_below (g := gb300) (o := .cells #[.int .i64 t297, .int .i64 t298] 24 (0, 0)) (by refine pe ?_; refine blk_put (cs := #[.int .i64 t297, .int .i64 0]) ?_ 1 _ rfl; refine pe ?_; refine blk_put (cs := #[.int .i64 0, .int .i64 0]) ?_ 0 _ rfl; refine pe ?_; exact BK300.out) hb); replace HB := wb HB hb; (try clear hb); (try clear hb2); (try clear hk); (try clear hi)))); (go_ret); exact ⟨by first | rfl | (simp [errW_none, errW_some] <;> rfl) | (simp [*, errW_none, errW_some] <;> rfl), bw HB⟩
   ·rw [if_neg c14] at H; have c14b0 : (t295 == t299) = false := beq_eq_false_iff_ne.mpr c14; have c14b1 : (t295 != t299) = true := bne_iff_ne.mpr c14; obtain rfl := Option.some.inj H; obtain ⟨hnb20, hnc20⟩ := n2 NB296_300; have hcz21_0 : w10.cell? ⟨gb296, 0, none⟩ = some (.int .i64 t293) := bc BK296 0; have hcz21_1 : w10.cell? ⟨gb296, 1, none⟩ = some (.int .i64 t294) := bc BK296 1; have hfz21_0 := blk_frozen BK296.out 0; have hfz21_1 := blk_frozen BK296.out 1; have hcz22_0 : w10.cell? ⟨gb300, 0, none⟩ = some (.int .i64 0) := bc BK300 0; have hcz22_1 : w10.cell? ⟨gb300, 1, none⟩ = some (.int .i64 0) := bc BK300 1; have hfz22_0 := blk_frozen BK300.out 0; have hfz22_1 := blk_frozen BK300.out 1; (go_wp2); (go_ret); exact ⟨by first | rfl | (simp [errW_none, errW_some] <;> rfl) | (simp [*, errW_none, errW_some] <;> rfl), bw HB⟩
  ·rw [if_neg c13] at H; (have c13b0 : (t293 == t297 && (t294 == t298)) = false := by simpa using c13); (try (have c13b1 : decide (t293 = t297 && (t294 == t298)) = false := by simpa using c13)); (try (have c13b2 : (t293 == t297 && (t294 == t298)) = false := by simpa using c13)); (try (have c13b3 : ¬ (t293 = t297 && (t294 == t298)) := by simpa using c13)); clear c13
   (first | rw [c13b0] | (simp only [i64_w, i32_w]; rw [c13b0]) | skip)
   obtain rfl := Option.some.inj H; obtain ⟨hnb23, hnc23⟩ := n2 NB296_300; have hcz24_0 : w10.cell? ⟨gb296, 0, none⟩ = some (.int .i64 t293) := bc BK296 0; have hcz24_1 : w10.cell? ⟨gb296, 1, none⟩ = some (.int .i64 t294) := bc BK296 1; have hfz24_0 := blk_frozen BK296.out 0; have hfz24_1 := blk_frozen BK296.out 1; have hcz25_0 : w10.cell? ⟨gb300, 0, none⟩ = some (.int .i64 0) := bc BK300 0; have hcz25_1 : w10.cell? ⟨gb300, 1, none⟩ = some (.int .i64 0) := bc BK300 1; have hfz25_0 := blk_frozen BK300.out 0; have hfz25_1 := blk_frozen BK300.out 1; (go_wp2); (go_ret); exact ⟨by first | rfl | (simp [errW_none, errW_some] <;> rfl) | (simp [*, errW_none, errW_some] <;> rfl), bw HB⟩

/-- THE ONE PURE STATEMENT of awardingbodylaw01_RatioParses: yours. -/
def awardingbodylaw01_RatioParses.Pure : Prop := ∀ (a0 : ByteArray), a0.size ≤ 140737488351232 → ∃ k, awardingbodylaw01_RatioParses.f k a0 = some true
theorem awardingbodylaw01_RatioParses.walk (P : awardingbodylaw01_RatioParses.Pure) (a0 : ByteArray) (w : World) (w0 : a0.size ≤ 140737488351232) :
  Calls Tryd.prog 6 #[.string a0] w fun e w' => e = .returned (.bool true) ∧ Below w.heap.size w w' := by
 obtain ⟨k, h⟩ := P a0 w0; refine (awardingbodylaw01_RatioParses.calls k a0 true w h).mono ?_; rintro e w' ⟨rfl, hd⟩; exact ⟨rfl, hd⟩

end Go.Proofs.YtbapkiclgkddcaaDoor.G

/- Texts of digits: what Trim, ParseUint and the reference's number tell of them. -/
namespace Go.Proofs.YtbapkiclgkddcaaDoor.Mth
open Go.RowKit Go.Proofs.YtbapkiclgkddcaaDoor.G Go.Proofs.YtbapkiclgkddcaaDoor.Given Go.Proofs.YtbapkiclgkddcaaDoorW.PrintWords Go.Proofs.YtbapkiclgkddcaaDoorW.PrintLast Go.Proofs.YtbapkiclgkddcaaDoorW.PrintMore
set_option linter.unusedVariables false
def isD (b : UInt8) : Bool := decide (48 ≤ b.toNat) && decide (b.toNat ≤ 57)
def allD (l : List UInt8) : Bool := l.all isD
def dval (acc : Nat) : List UInt8 → Nat
  | [] => acc
  | c :: r => dval (acc * 10 + (c.toNat - 48)) r
def digs : List UInt8 := [48, 49, 50, 51, 52, 53, 54, 55, 56, 57]
theorem digs_eq (b : UInt8) : digs.contains b = isD b := by
  rw [Bool.eq_iff_iff]; unfold isD digs; simp only [List.contains_eq_mem, List.mem_cons, List.not_mem_nil, or_false, decide_eq_true_eq, Bool.and_eq_true, ← UInt8.toNat_inj]; constructor
  · intro h
    (have e : ∀ n : Nat, n < 256 → (OfNat.ofNat n : UInt8).toNat = n := fun n hn => by simp [UInt8.toNat_ofNat, Nat.mod_eq_of_lt hn]); simp at h; omega
  · intro h
    simp; omega
theorem dw_nil (p : UInt8 → Bool) : ∀ l : List UInt8, l.dropWhile p = [] ↔ ∀ x ∈ l, p x = true := by
  intro l
  induction l with
  | nil => simp
  | cons c r ih =>
    cases hc : p c with
    | true => rw [List.dropWhile_cons_of_pos hc, ih]; simp [hc]
    | false =>
      rw [List.dropWhile_cons_of_neg (by rw [hc]; simp)]; constructor
      · intro h; cases h
      · intro h; have := h c (by simp); rw [hc] at this; cases this
theorem dw_head (p : UInt8 → Bool) : ∀ (l : List UInt8) (y : UInt8) (ys : List UInt8), l.dropWhile p = y :: ys → p y = false := by
  intro l
  induction l with
  | nil => intro y ys h; cases h
  | cons c r ih =>
    intro y ys h
    cases hc : p c with
    | true => rw [List.dropWhile_cons_of_pos hc] at h; exact ih y ys h
    | false =>
      rw [List.dropWhile_cons_of_neg (by rw [hc]; simp)] at h; injection h with h1 h2; rw [← h1]; exact hc
theorem trim_all (l : List UInt8) : ((Lib.trimS l digs) = []) ↔ allD l = true := by
  have e : (fun x : UInt8 => digs.contains x) = isD := funext digs_eq
  have e2 : Lib.trimS l digs = ((l.reverse.dropWhile (fun x => digs.contains x)).reverse).dropWhile (fun x => digs.contains x) := by
    first | rfl | (unfold Lib.trimS Lib.trimLeftS Lib.trimRightS; rfl)
  rw [e2, e]; unfold allD; rw [dw_nil, List.all_eq_true]; constructor
  · intro h
    have h2 : l.reverse.dropWhile isD = [] := by
      cases hc : l.reverse.dropWhile isD with
      | nil => rfl
      | cons y ys =>
        exfalso
        have h3 := h y (by rw [hc]; simp); have h4 := dw_head isD _ _ _ hc; rw [h3] at h4; cases h4
    intro x hx; exact (dw_nil isD _).1 h2 x (by simpa using hx)
  · intro h x hx
    (have : x ∈ l.reverse.dropWhile isD := by simpa using hx); exact h x (by simpa using (List.dropWhile_sublist isD).subset this)
theorem digits_eq (s : ByteArray) (n : Nat) (hs : s.size ≤ 9223372036854775807) : ratio_digits.f s n = some (decide (1 ≤ s.size ∧ s.size ≤ n) && allD s.data.toList) := by
  unfold ratio_digits.f
  by_cases h1 : (s.size : Int) ≥ 1
  · rw [if_pos h1]
    by_cases h2 : (s.size : Int) ≤ (n : Int)
    · rw [if_pos h2, decide_eq_true (show 1 ≤ s.size ∧ s.size ≤ n by omega), Bool.true_and]
      unfold strings_Trim.f; rw [if_pos ⟨hs, by decide, by decide⟩, Option.bind_some]
      congr 1
      rw [Bool.eq_iff_iff, beq_iff_eq, ← trim_all, Lib.toList_data]; rfl
    · rw [if_neg h2, decide_eq_false (show ¬ (1 ≤ s.size ∧ s.size ≤ n) by omega), Bool.false_and]
  · rw [if_neg h1, decide_eq_false (show ¬ (1 ≤ s.size ∧ s.size ≤ n) by omega), Bool.false_and]
theorem isD_bd {c : UInt8} (h : isD c = true) : 48 ≤ c.toNat ∧ c.toNat ≤ 57 := by
  unfold isD at h
  simpa using h
theorem parseM_gen (M B : Nat) (hB : 10 * B ≤ M) (hB2 : B ≤ 1844674407370955162) : ∀ (l : List UInt8) (acc n : Nat), allD l = true → l.length ≤ n → n ≤ 19 → (∀ a m, m ≤ n → a < 10 ^ (19 - (m + 1)) → a < B) → acc < 10 ^ (19 - l.length) → Lib.parseUintM M acc l = .ok (dval acc l) ∧ dval acc l < 10 ^ 19 := by
  intro l
  induction l with
  | nil => intro acc n _ _ _ _ h; exact ⟨rfl, h⟩
  | cons c r ih =>
    intro acc n ha hl hn hq h; unfold allD at ha; rw [List.all_cons, Bool.and_eq_true] at ha; obtain ⟨b1, b2⟩ := isD_bd ha.1; rw [List.length_cons] at hl h; (have e : 19 - r.length = (19 - (r.length + 1)) + 1 := by omega); have h5 := hq acc r.length (by omega) h; (have h2 : acc * 10 + (c.toNat - 48) < 10 ^ (19 - r.length) := by rw [e, Nat.pow_succ]; omega); have i := ih (acc * 10 + (c.toNat - 48)) n ha.2 (by omega) hn hq h2; have hd : dval acc (c :: r) = dval (acc * 10 + (c.toNat - 48)) r := rfl; rw [hd, ← i.1]; refine ⟨?_, i.2⟩; rw [Lib.parseUintM]; rw [if_pos ⟨b1, b2⟩, if_neg (by omega), if_neg (by omega)]
theorem lt_B (a m : Nat) (h : a < 10 ^ (19 - (m + 1))) : a < 1000000000000000000 := Nat.lt_of_lt_of_le h (Nat.le_trans (Nat.pow_le_pow_right (by omega) (show 19 - (m + 1) ≤ 18 by omega)) (by decide))
theorem parseU_eq (s : ByteArray) (ha : allD s.data.toList = true) (h1 : 1 ≤ s.size) (h2 : s.size ≤ 19) : parseU s = some (dval 0 s.data.toList) ∧ dval 0 s.data.toList < 10 ^ 19 := by
  (have hl : s.data.toList.length = s.size := by simp); have hm := parseM_gen (2 ^ 64 - 1) 1000000000000000000 (by decide) (by decide) s.data.toList 0 19 ha (by omega) (by omega) (fun a m _ h => lt_B a m h) (Nat.pow_pos (by omega)); refine ⟨?_, hm.2⟩; unfold parseU Lib.parseUintB; rw [if_pos (by omega), if_neg (fun h => by rw [h] at hl; simp at hl; omega), hm.1]
end Go.Proofs.YtbapkiclgkddcaaDoor.Mth
