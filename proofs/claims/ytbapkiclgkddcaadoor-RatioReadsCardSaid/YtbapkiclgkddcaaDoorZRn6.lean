/- Texts of this claim laid together: Gf27, Gf23, Gf8, Gf63. -/
import Derived.Test.YtbapkiclgkddcaaDoorShortC
import Derived.Test.YtbapkiclgkddcaaDoorG0
import Derived.Test.YtbapkiclgkddcaaDoorGe1
import Derived.Test.YtbapkiclgkddcaaDoorZRn3
import Derived.Test.YtbapkiclgkddcaaDoorZRn5
-- Printed by gp.py (a program of this session's own, over the kit's printer) out of the translation; Lean checks it.
namespace Go.Proofs.YtbapkiclgkddcaaDoor.G
open Go.Proofs.YtbapkiclgkddcaaDoor.Given Go.Proofs.YtbapkiclgkddcaaDoor.Short
open Go.RowKit Go.Proofs.YtbapkiclgkddcaaDoorW.PrintWords Go.Proofs.YtbapkiclgkddcaaDoorW.PrintLast Go.Proofs.YtbapkiclgkddcaaDoorW.PrintMore
attribute [local go_sem] max2_int min2_int max_two min_two max_three min_three max_four min_four   -- for this text's walks alone
set_option linter.unusedVariables false
set_option linter.unusedSimpArgs false

attribute [local go_sem high] eqA65
/-! ### r1_Parse: function 27 -/
mutual
def r1_Parse.j0 : Nat → ByteArray → Bool → Option (Int × Int × Int)
 | 0, _, _ => none
 | k + 1, x0, x4 => if x4 = true then (if 1 ≤ (x0.size : Int) then (r1_Parse.j1 k (x0.extract 1 x0.size) x4) else (none)) else (r1_Parse.j1 k x0 x4)
def r1_Parse.j1 : Nat → ByteArray → Bool → Option (Int × Int × Int)
 | 0, _, _ => none
 | k + 1, x0, x4 => (r1_index.f k x0 47).bind fun t258 => ((r1_index.f k x0 46).bind fun t259 => (if t258 ≥ 0 then (if 0 ≤ t258 then (if t258 ≤ (x0.size : Int) then ((r1_number.f k (x0.extract 0 (t258 : Int).toNat) 19).bind fun bt260 => (if 0 ≤ (wrap64 (t258 + 1)) then (if (wrap64 (t258 + 1)) ≤ (x0.size : Int) then ((r1_number.f k (x0.extract ((wrap64 (t258 + 1)) : Int).toNat x0.size) 19).bind fun bt262 => (if bt260.2 = true then (r1_Parse.j2 k x4 bt260.1 bt262.1 (!bt262.2)) else (r1_Parse.j2 k x4 bt260.1 bt262.1 true))) else (none)) else (none))) else (none)) else (none)) else (if t259 < 0 then ((r1_number.f k x0 19).bind fun bt270 => (if bt270.2 = true then (if x4 = true then ((r1_Reduce.f k (decide (bt270.1 > 0)) 0 bt270.1 0 1).bind fun bt272 => (some (bt272.1, bt272.2.1, bt272.2.2))) else ((r1_Reduce.f k false 0 bt270.1 0 1).bind fun bt275 => (some (bt275.1, bt275.2.1, bt275.2.2)))) else (some (0, 0, 7)))) else (if 0 ≤ t259 then (if t259 ≤ (x0.size : Int) then ((r1_number.f k (x0.extract 0 (t259 : Int).toNat) 19).bind fun bt278 => (if 0 ≤ (wrap64 (t259 + 1)) then (if (wrap64 (t259 + 1)) ≤ (x0.size : Int) then ((r1_number.f k (x0.extract ((wrap64 (t259 + 1)) : Int).toNat x0.size) 9).bind fun bt280 => (if bt278.2 = true then (r1_Parse.j3 k x0 x4 t259 bt278.1 bt280.1 (!bt280.2)) else (r1_Parse.j3 k x0 x4 t259 bt278.1 bt280.1 true))) else (none)) else (none))) else (none)) else (none)))))
def r1_Parse.j2 : Nat → Bool → Int → Int → Bool → Option (Int × Int × Int)
 | 0, _, _, _, _ => none
 | k + 1, x4, x7, x9, x57 => if x57 = true then (some (0, 0, 7)) else (if x9 = 0 then (some (0, 0, 2)) else (if x4 = true then ((r1_Reduce.f k (decide (x7 > 0)) 0 x7 0 x9).bind fun bt264 => (some (bt264.1, bt264.2.1, bt264.2.2))) else ((r1_Reduce.f k false 0 x7 0 x9).bind fun bt267 => (some (bt267.1, bt267.2.1, bt267.2.2)))))
def r1_Parse.j3 : Nat → ByteArray → Bool → Int → Int → Int → Bool → Option (Int × Int × Int)
 | 0, _, _, _, _, _, _ => none
 | k + 1, x0, x4, x6, x13, x15, x115 => if x115 = true then (some (0, 0, 7)) else (r1_Parse.l0 k x0 x4 x13 x15 1 (wrap64 (x6 + 1)))
def r1_Parse.l0 : Nat → ByteArray → Bool → Int → Int → Int → Int → Option (Int × Int × Int)
 | 0, _, _, _, _, _, _ => none
 | k + 1, x0, x4, x13, x15, x17, x18 => if x18 < (x0.size : Int) then (r1_Parse.l0 k x0 x4 x13 x15 (IntKind.u64.wrap (x17 * 10)) (wrap64 (x18 + 1))) else ((r1_Product.f x13 x17).bind fun bt282 => ((r1_Plus.f bt282.1 bt282.2 0 x15).bind fun bt284 => (if x4 = true then ((r1_Reduce.f k (!(bt284.1 == 0) || (!(bt284.2 == 0))) bt284.1 bt284.2 0 x17).bind fun bt287 => (some (bt287.1, bt287.2.1, bt287.2.2))) else ((r1_Reduce.f k false bt284.1 bt284.2 0 x17).bind fun bt290 => (some (bt290.1, bt290.2.1, bt290.2.2))))))
end
def r1_Parse.f (k : Nat) (a0 : ByteArray) : Option (Int × Int × Int) := if (a0.size : Int) > 0 then (if 0 < (a0.size : Int) then (r1_Parse.j0 k a0 ((bt a0 0) == 45)) else (none)) else (r1_Parse.j0 k a0 false)
theorem r1_Parse.mono_l : ∀ k, (∀ y0 y1, LeO (r1_Parse.j0 k y0 y1) (r1_Parse.j0 (k + 1) y0 y1)) ∧ (∀ y0 y1, LeO (r1_Parse.j1 k y0 y1) (r1_Parse.j1 (k + 1) y0 y1)) ∧ (∀ y0 y1 y2 y3, LeO (r1_Parse.j2 k y0 y1 y2 y3) (r1_Parse.j2 (k + 1) y0 y1 y2 y3)) ∧ (∀ y0 y1 y2 y3 y4 y5, LeO (r1_Parse.j3 k y0 y1 y2 y3 y4 y5) (r1_Parse.j3 (k + 1) y0 y1 y2 y3 y4 y5)) ∧ (∀ y0 y1 y2 y3 y4 y5, LeO (r1_Parse.l0 k y0 y1 y2 y3 y4 y5) (r1_Parse.l0 (k + 1) y0 y1 y2 y3 y4 y5))
 | 0 => ⟨fun _ _ r h => by simp [r1_Parse.j0] at h, fun _ _ r h => by simp [r1_Parse.j1] at h, fun _ _ _ _ r h => by simp [r1_Parse.j2] at h, fun _ _ _ _ _ _ r h => by simp [r1_Parse.j3] at h, fun _ _ _ _ _ _ r h => by simp [r1_Parse.l0] at h⟩
 | k + 1 => by
  obtain ⟨ih0, ih1, ih2, ih3, ih4⟩ := r1_Parse.mono_l k; refine ⟨?_, ?_, ?_, ?_, ?_⟩
  ·intro y0 y1; unfold r1_Parse.j0
   repeat' first
   | (with_reducible exact ih0 _ _)
   | (with_reducible exact ih1 _ _)
   | (with_reducible exact ih2 _ _ _ _)
   | (with_reducible exact ih3 _ _ _ _ _ _)
   | (with_reducible exact ih4 _ _ _ _ _ _)
   | (with_reducible exact r1_Reduce.mono _ _ _ _ _ _)
   | (with_reducible exact r1_index.mono _ _ _)
   | (with_reducible exact r1_number.mono _ _ _)
   | (with_reducible exact LeO.refl _)
   | (with_reducible exact LeO.none _)
   | (with_reducible refine LeO.ite ?_ ?_)
   | (with_reducible refine LeO.bind ?_ (fun _ => ?_))
   | exact ih0 _ _
   | exact ih1 _ _
   | exact ih2 _ _ _ _
   | exact ih3 _ _ _ _ _ _
   | exact ih4 _ _ _ _ _ _
   | exact r1_Reduce.mono _ _ _ _ _ _
   | exact r1_index.mono _ _ _
   | exact r1_number.mono _ _ _
   | exact LeO.none _
   | refine LeO.ite ?_ ?_
   | refine LeO.bind ?_ (fun _ => ?_)
  ·intro y0 y1; unfold r1_Parse.j1
   repeat' first
   | (with_reducible exact ih0 _ _)
   | (with_reducible exact ih1 _ _)
   | (with_reducible exact ih2 _ _ _ _)
   | (with_reducible exact ih3 _ _ _ _ _ _)
   | (with_reducible exact ih4 _ _ _ _ _ _)
   | (with_reducible exact r1_Reduce.mono _ _ _ _ _ _)
   | (with_reducible exact r1_index.mono _ _ _)
   | (with_reducible exact r1_number.mono _ _ _)
   | (with_reducible exact LeO.refl _)
   | (with_reducible exact LeO.none _)
   | (with_reducible refine LeO.ite ?_ ?_)
   | (with_reducible refine LeO.bind ?_ (fun _ => ?_))
   | exact ih0 _ _
   | exact ih1 _ _
   | exact ih2 _ _ _ _
   | exact ih3 _ _ _ _ _ _
   | exact ih4 _ _ _ _ _ _
   | exact r1_Reduce.mono _ _ _ _ _ _
   | exact r1_index.mono _ _ _
   | exact r1_number.mono _ _ _
   | exact LeO.none _
   | refine LeO.ite ?_ ?_
   | refine LeO.bind ?_ (fun _ => ?_)
  ·intro y0 y1 y2 y3; unfold r1_Parse.j2
   repeat' first
   | (with_reducible exact ih0 _ _)
   | (with_reducible exact ih1 _ _)
   | (with_reducible exact ih2 _ _ _ _)
   | (with_reducible exact ih3 _ _ _ _ _ _)
   | (with_reducible exact ih4 _ _ _ _ _ _)
   | (with_reducible exact r1_Reduce.mono _ _ _ _ _ _)
   | (with_reducible exact r1_index.mono _ _ _)
   | (with_reducible exact r1_number.mono _ _ _)
   | (with_reducible exact LeO.refl _)
   | (with_reducible exact LeO.none _)
   | (with_reducible refine LeO.ite ?_ ?_)
   | (with_reducible refine LeO.bind ?_ (fun _ => ?_))
   | exact ih0 _ _
   | exact ih1 _ _
   | exact ih2 _ _ _ _
   | exact ih3 _ _ _ _ _ _
   | exact ih4 _ _ _ _ _ _
   | exact r1_Reduce.mono _ _ _ _ _ _
   | exact r1_index.mono _ _ _
   | exact r1_number.mono _ _ _
   | exact LeO.none _
   | refine LeO.ite ?_ ?_
   | refine LeO.bind ?_ (fun _ => ?_)
  ·intro y0 y1 y2 y3 y4 y5; unfold r1_Parse.j3
   repeat' first
   | (with_reducible exact ih0 _ _)
   | (with_reducible exact ih1 _ _)
   | (with_reducible exact ih2 _ _ _ _)
   | (with_reducible exact ih3 _ _ _ _ _ _)
   | (with_reducible exact ih4 _ _ _ _ _ _)
   | (with_reducible exact r1_Reduce.mono _ _ _ _ _ _)
   | (with_reducible exact r1_index.mono _ _ _)
   | (with_reducible exact r1_number.mono _ _ _)
   | (with_reducible exact LeO.refl _)
   | (with_reducible exact LeO.none _)
   | (with_reducible refine LeO.ite ?_ ?_)
   | (with_reducible refine LeO.bind ?_ (fun _ => ?_))
   | exact ih0 _ _
   | exact ih1 _ _
   | exact ih2 _ _ _ _
   | exact ih3 _ _ _ _ _ _
   | exact ih4 _ _ _ _ _ _
   | exact r1_Reduce.mono _ _ _ _ _ _
   | exact r1_index.mono _ _ _
   | exact r1_number.mono _ _ _
   | exact LeO.none _
   | refine LeO.ite ?_ ?_
   | refine LeO.bind ?_ (fun _ => ?_)
  ·intro y0 y1 y2 y3 y4 y5; unfold r1_Parse.l0
   repeat' first
   | (with_reducible exact ih0 _ _)
   | (with_reducible exact ih1 _ _)
   | (with_reducible exact ih2 _ _ _ _)
   | (with_reducible exact ih3 _ _ _ _ _ _)
   | (with_reducible exact ih4 _ _ _ _ _ _)
   | (with_reducible exact r1_Reduce.mono _ _ _ _ _ _)
   | (with_reducible exact r1_index.mono _ _ _)
   | (with_reducible exact r1_number.mono _ _ _)
   | (with_reducible exact LeO.refl _)
   | (with_reducible exact LeO.none _)
   | (with_reducible refine LeO.ite ?_ ?_)
   | (with_reducible refine LeO.bind ?_ (fun _ => ?_))
   | exact ih0 _ _
   | exact ih1 _ _
   | exact ih2 _ _ _ _
   | exact ih3 _ _ _ _ _ _
   | exact ih4 _ _ _ _ _ _
   | exact r1_Reduce.mono _ _ _ _ _ _
   | exact r1_index.mono _ _ _
   | exact r1_number.mono _ _ _
   | exact LeO.none _
   | refine LeO.ite ?_ ?_
   | refine LeO.bind ?_ (fun _ => ?_)
theorem r1_Parse.mono : ∀ a0 k, LeO (r1_Parse.f k a0) (r1_Parse.f (k + 1) a0) := by
 intro a0 k; obtain ⟨ih0, ih1, ih2, ih3, ih4⟩ := r1_Parse.mono_l k; unfold r1_Parse.f
 repeat' first
   | (with_reducible exact ih0 _ _)
   | (with_reducible exact ih1 _ _)
   | (with_reducible exact ih2 _ _ _ _)
   | (with_reducible exact ih3 _ _ _ _ _ _)
   | (with_reducible exact ih4 _ _ _ _ _ _)
   | (with_reducible exact r1_Reduce.mono _ _ _ _ _ _)
   | (with_reducible exact r1_index.mono _ _ _)
   | (with_reducible exact r1_number.mono _ _ _)
   | (with_reducible exact LeO.refl _)
   | (with_reducible exact LeO.none _)
   | (with_reducible refine LeO.ite ?_ ?_)
   | (with_reducible refine LeO.bind ?_ (fun _ => ?_))
   | exact ih0 _ _
   | exact ih1 _ _
   | exact ih2 _ _ _ _
   | exact ih3 _ _ _ _ _ _
   | exact ih4 _ _ _ _ _ _
   | exact r1_Reduce.mono _ _ _ _ _ _
   | exact r1_index.mono _ _ _
   | exact r1_number.mono _ _ _
   | exact LeO.none _
   | refine LeO.ite ?_ ?_
   | refine LeO.bind ?_ (fun _ => ?_)
def r1_Parse.T28 : Bool × List (List Nat × List Nat) := (true, [([], []), ([0], [0]), ([1], [1]), ([1], [1]), ([2, 3, 1], [1, 2, 3]), ([1, 4], [1, 4]), ([], []), ([], []), ([7], [7]), ([5, 6, 8, 1], [5, 6, 8]), ([9], [9]), ([9], [9]), ([10, 9, 0, 1, 2, 3, 4, 5, 6, 7, 8, 9, 10, 11], [10]), ([11, 12, 0, 1, 2, 3, 4, 5, 6, 7, 8, 9, 10, 11, 12], [11])])
def r1_Parse.B28 : List Nat := [0, 1, 3, 3, 15, 31, 0, 0, 128, 511, 1023, 1023, 4095, 8191]
theorem r1_Parse.tab28 : rtab .any (opsOf Tryd.f27 28) = r1_Parse.T28 := by kernel_rfl
theorem r1_Parse.bits28 : waitsOk r1_Parse.T28.2 r1_Parse.B28 = true := by kernel_rfl
set_option maxHeartbeats 8000000 in
set_option maxRecDepth 100000 in
theorem r1_Parse.calls (k : Nat) (a0 : ByteArray) (r1 : Int) (r2 : Int) (r3 : Int) (w : World) (h : r1_Parse.f k a0 = some (r1, r2, r3)) :
  Calls Tryd.prog 27 #[.string a0] w fun e w' => e = .returned (.tuple #[.agg #[.int .i64 r1, .int .i64 r2], .int .i64 r3]) ∧ Below w.heap.size w w' := by
 have hu24 := Tryd.underlying24; have hu65 := Tryd.underlying65; have HB := Aside0.mk (Below.refl w.heap.size w); have H : (if (a0.size : Int) > 0 then (if 0 < (a0.size : Int) then (r1_Parse.j0 k a0 ((bt a0 0) == 45)) else (none)) else (r1_Parse.j0 k a0 false)) = some (r1, r2, r3) := h; clear h; have HC2 := Aside0.mk H; clear H; go_enter Tryd.func27, Tryd.ntmps27
 go_upto_region 1 with (first | ((with_reducible refine gate_dst (N := 2) rfl ?_); refine bx (N := 2) (cs := #[.int .i64 0, .int .i64 0]) (t := 24) ?_; intro gb257 hg w3 hbox hb; have BK257 := Aside0.mk (hbox); have GW257 := gs HB hg; have GE257 := gs HB hg; replace HB := wb HB hb; clear hb hbox hg))
 (try simp only [Act.put, List.setIfInBounds_toArray, List.set_cons_zero, List.set_cons_succ])
 go_cut [4] (fun v4 wc => ∃ (kq : Nat) (x4_1 : Bool), v4 = .bool x4_1 ∧ Aside0 (r1_Parse.j0 kq a0 x4_1 = some (r1, r2, r3)) ∧ Aside0 (kq ≤ k) ∧ Aside0 (wc.heap[gb257]? = some (.cells #[.int .i64 0, .int .i64 0] 24 (0, 0))) ∧ Aside0 (Below w.heap.size w wc))
 case first =>
  have H := HC2.out; clear HC2
  by_cases c4 : (a0.size : Int) > 0
  ·rw [if_pos c4] at H; have c4b0 : decide (0 < (a0.size : Int)) = true := decide_eq_true c4; have c4b1 : decide (0 < a0.size) = true := decide_eq_true (by omega); clear c4
   (first | rw [c4b0] | (simp only [i64_w, i32_w]; rw [c4b0]) | skip)
   by_cases c5 : 0 < (a0.size : Int)
   ·rw [if_pos c5] at H; have c5b0 : decide (0 < (a0.size : Int)) = true := decide_eq_true c5; have c5b1 : decide (0 < a0.size) = true := decide_eq_true (by omega); clear c5; have H' := Aside0.mk H; clear H; have p6 : 0 ≤ (0 : Int) := (by omega); have q6 : 0 < a0.size := (by have : (0 : Int) < (a0.size : Int) := of_decide_eq_true (by first | (with_reducible assumption) | assumption); omega); have hx6 : ∀ h : 0 < a0.size, ((a0[0]'h).toNat : Int) = bt a0 0 := bt_at a0 0; clear p6; have qi6 : (0 < (a0.size : Int)) = True := eq_true (of_decide_eq_true (by first | (with_reducible assumption) | assumption)); replace q6 := eq_true q6; go_wp2
    go_meet
    case rel => exact ⟨_, (((bt a0 0) == 45)), (by first | rfl | (simp; done) | (simp [*]; done)), H', ⟨by first | omega | exact Nat.le_refl _⟩, ⟨bq BK257⟩, ⟨bw HB⟩⟩
   ·rw [if_neg c5] at H; exact absurd H (by simp)
  ·rw [if_neg c4] at H; have c4b0 : decide (0 < (a0.size : Int)) = false := decide_eq_false c4; have c4b1 : decide (0 < a0.size) = false := decide_eq_false (by omega); clear c4
   (first | rw [c4b0] | (simp only [i64_w, i32_w]; rw [c4b0]) | skip)
   have H' := Aside0.mk H; clear H; go_wp2
   go_meet
   case rel => exact ⟨_, (false), (by first | rfl | (simp; done) | (simp [*]; done)), H', ⟨by first | omega | exact Nat.le_refl _⟩, ⟨bq BK257⟩, ⟨bw HB⟩⟩
 case rest =>
  clear HC2; (try clear c2); (try clear p2); (try clear c4); (try clear c4b0); (try clear c4b1); (try clear c5); (try clear c5b0); (try clear c5b1); (try clear p6); (try clear q6); (try clear hx6); (try clear qi6); (try clear p6); (try clear q6); obtain ⟨kq, x4_1, rfl, HA, HJ1, BK257, HB⟩ := hcut
  cases kq with
  | zero => exact absurd HA.out (by simp [r1_Parse.j0])
  | succ kj1 =>
   have H := HA.out; clear HA; simp only [r1_Parse.j0] at H; have HC7 := Aside0.mk H; clear H
   go_upto_if 28 with (fail)
   go_cut [0] (fun v0 wc => ∃ (kq : Nat) (x0_6 : ByteArray), v0 = .string x0_6 ∧ Aside0 (r1_Parse.j1 kq x0_6 x4_1 = some (r1, r2, r3)) ∧ Aside0 (kq ≤ kj1) ∧ Aside0 (wc.heap[gb257]? = some (.cells #[.int .i64 0, .int .i64 0] 24 (0, 0))) ∧ Aside0 (Below w.heap.size w wc))
   case first =>
    have H := HC7.out; clear HC7
    by_cases c8 : x4_1 = true
    ·subst c8; (have H1 : (if 1 ≤ (a0.size : Int) then (r1_Parse.j1 kj1 (a0.extract 1 a0.size) true) else (none)) = some (r1, r2, r3) := by rw [if_pos rfl] at H; exact H); clear H; have H := H1; clear H1
     by_cases c9 : 1 ≤ (a0.size : Int)
     ·rw [if_pos c9] at H; have c9b0 := eq_true c9; have c9b1 : decide (1 ≤ (a0.size : Int)) = true := decide_eq_true c9; clear c9; have H' := Aside0.mk H; clear H; go_wp2
      go_meet
      case rel => exact ⟨_, (a0.extract 1 a0.size), (by first | rfl | (simp; done) | (simp [*]; done)), H', ⟨by have := HJ1.out; first | omega | exact Nat.le_refl _⟩, ⟨bq BK257⟩, ⟨bw HB⟩⟩
     ·rw [if_neg c9] at H; exact absurd H (by simp)
    ·replace c8 := Bool.eq_false_iff.mpr c8; subst c8; (have H1 : (r1_Parse.j1 kj1 a0 false) = some (r1, r2, r3) := by rw [if_neg (show ¬ (false = true) by decide)] at H; exact H); clear H; have H := H1; clear H1; have H' := Aside0.mk H; clear H; go_wp2
     go_meet
     case rel => exact ⟨_, (a0), (by first | rfl | (simp; done) | (simp [*]; done)), H', ⟨by have := HJ1.out; first | omega | exact Nat.le_refl _⟩, ⟨bq BK257⟩, ⟨bw HB⟩⟩
   case rest =>
    clear HC7; (try clear c2); (try clear p2); (try clear c4); (try clear c4b0); (try clear c4b1); (try clear c5); (try clear c5b0); (try clear c5b1); (try clear p6); (try clear q6); (try clear hx6); (try clear qi6); (try clear c8); (try clear c9); (try clear c9b0); (try clear c9b1); (try clear p2); (try clear p6); (try clear q6); obtain ⟨kq, x0_6, rfl, HA, HJ6, BK257, HB⟩ := hcut
    cases kq with
    | zero => exact absurd HA.out (by simp [r1_Parse.j1])
    | succ kj6 =>
     have H := HA.out; clear HA; simp only [r1_Parse.j1] at H; replace H := Option.bind_eq_some_iff.mp H; obtain ⟨t258, A100, H⟩ := H; (try dsimp only at H); have A10 := Aside0.mk A100; clear A100; replace H := Option.bind_eq_some_iff.mp H; obtain ⟨t259, A110, H⟩ := H; (try dsimp only at H); have A11 := Aside0.mk A110; clear A110; have HC12 := Aside0.mk H; clear H
     go_upto_if 36 with (first | ((with_reducible refine gate_callee (f := 60) rfl ?_); refine gl (some 32) Tryd.func60 #[.string x0_6, .int .u8 47] ?_; (with_reducible refine (r1_index.calls kj6 x0_6 47 t258 _ A10.out).mono ?_); rintro e w' ⟨rfl, ⟨nd, rfl⟩⟩; refine ⟨_, rfl, ?_⟩) | ((with_reducible refine gate_callee (f := 60) rfl ?_); refine gl (some 34) Tryd.func60 #[.string x0_6, .int .u8 46] ?_; (with_reducible refine (r1_index.calls kj6 x0_6 46 t259 _ A11.out).mono ?_); rintro e w' ⟨rfl, ⟨nd, rfl⟩⟩; refine ⟨_, rfl, ?_⟩))
     (try simp only [Act.put, List.setIfInBounds_toArray, List.set_cons_zero, List.set_cons_succ]); have H := HC12.out; clear HC12
     by_cases c13 : t258 ≥ 0
     ·rw [if_pos c13] at H; have c13b0 : decide (0 ≤ t258) = true := decide_eq_true c13; clear c13
      (first | rw [c13b0] | (simp only [i64_w, i32_w]; rw [c13b0]) | skip)
      by_cases c14 : 0 ≤ t258
      ·rw [if_pos c14] at H; have c14b0 := eq_true c14; have c14b1 : decide (0 ≤ t258) = true := decide_eq_true c14; clear c14
       by_cases c15 : t258 ≤ (x0_6.size : Int)
       ·rw [if_pos c15] at H; have c15b0 := eq_true c15; have c15b1 : decide (t258 ≤ (x0_6.size : Int)) = true := decide_eq_true c15; clear c15; replace H := Option.bind_eq_some_iff.mp H; obtain ⟨⟨t260, t261⟩, A160, H⟩ := H; (try dsimp only at H); have A16 := Aside0.mk A160; clear A160; obtain ⟨ji17, hji17⟩ : ∃ j_ : Int, (wrap64 (t258 + 1)) = j_ := ⟨_, rfl⟩; (replace H : (if 0 ≤ (ji17) then (if (ji17) ≤ (x0_6.size : Int) then ((r1_number.f kj6 (x0_6.extract ((ji17) : Int).toNat x0_6.size) 19).bind fun bt262 => (if t261 = true then (r1_Parse.j2 kj6 x4_1 t260 bt262.1 (!bt262.2)) else (r1_Parse.j2 kj6 x4_1 t260 bt262.1 true))) else (none)) else (none)) = some (r1, r2, r3) := by first | (rw [hji17] at H; exact H) | (simp only [hji17] at H ⊢; exact H)); (try rw [hji17] at A16); have hji17w : (IntKind.i64.wrap (t258 + 1)) = ji17 := (i64_w _).trans hji17
        by_cases c18 : 0 ≤ (ji17)
        ·rw [if_pos c18] at H; have c18b0 := eq_true c18; have c18b1 : decide (0 ≤ (ji17)) = true := decide_eq_true c18; clear c18
         by_cases c19 : (ji17) ≤ (x0_6.size : Int)
         ·rw [if_pos c19] at H; have c19b0 := eq_true c19; have c19b1 : decide ((ji17) ≤ (x0_6.size : Int)) = true := decide_eq_true c19; clear c19; replace H := Option.bind_eq_some_iff.mp H; obtain ⟨⟨t262, t263⟩, A200, H⟩ := H; (try dsimp only at H); have A20 := Aside0.mk A200; clear A200; have HC21 := Aside0.mk H; clear H
          go_upto_region 8 with (first | ((with_reducible refine gate_callee (f := 61) rfl ?_); refine gl (some 41) Tryd.func61 #[.string (x0_6.extract 0 (t258 : Int).toNat), .int .i64 19] ?_; (with_reducible refine (r1_number.calls kj6 (x0_6.extract 0 (t258 : Int).toNat) 19 t260 t261 _ A16.out).mono ?_); rintro e w' ⟨rfl, ⟨nd, rfl⟩⟩; refine ⟨_, rfl, ?_⟩) | ((with_reducible refine gate_callee (f := 61) rfl ?_); refine goesL_ (some 49) rfl rfl Tryd.func61 (by kernel_rfl) rfl #[.string (x0_6.extract ((ji17) : Int).toNat x0_6.size), .int .i64 19] rfl (by (try simp only [List.map_toArray, List.map_cons, List.map_nil]); first | done | (simp only [hji17]; rfl) | rfl | (simp only [List.length_drop, List.length_take]; rfl)) ?_; (with_reducible refine (r1_number.calls kj6 (x0_6.extract ((ji17) : Int).toNat x0_6.size) 19 t262 t263 _ A20.out).mono ?_); rintro e w' ⟨rfl, ⟨nd, rfl⟩⟩; refine ⟨_, rfl, ?_⟩))
          (try simp only [Act.put, List.setIfInBounds_toArray, List.set_cons_zero, List.set_cons_succ])
          go_cut [57] (fun v57 wc => ∃ (kq : Nat) (x57_20 : Bool), v57 = .bool x57_20 ∧ Aside0 (r1_Parse.j2 kq x4_1 t260 t262 x57_20 = some (r1, r2, r3)) ∧ Aside0 (kq ≤ kj6) ∧ Aside0 (wc.heap[gb257]? = some (.cells #[.int .i64 0, .int .i64 0] 24 (0, 0))) ∧ Aside0 (Below w.heap.size w wc))
          case first =>
           have H := HC21.out; clear HC21
           by_cases c22 : t261 = true
           ·subst c22; (have H1 : (r1_Parse.j2 kj6 x4_1 t260 t262 (!t263)) = some (r1, r2, r3) := by rw [if_pos rfl] at H; exact H); clear H; have H := H1; clear H1; have H' := Aside0.mk H; clear H; go_wp2
            go_meet
            case rel => exact ⟨_, (!t263), (by first | rfl | (simp; done) | (simp [*]; done)), H', ⟨by have := HJ1.out; have := HJ6.out; first | omega | exact Nat.le_refl _⟩, ⟨bq BK257⟩, ⟨bw HB⟩⟩
           ·replace c22 := Bool.eq_false_iff.mpr c22; subst c22; (have H1 : (r1_Parse.j2 kj6 x4_1 t260 t262 true) = some (r1, r2, r3) := by rw [if_neg (show ¬ (false = true) by decide)] at H; exact H); clear H; have H := H1; clear H1; have H' := Aside0.mk H; clear H; go_wp2
            go_meet
            case rel => exact ⟨_, (true), (by first | rfl | (simp; done) | (simp [*]; done)), H', ⟨by have := HJ1.out; have := HJ6.out; first | omega | exact Nat.le_refl _⟩, ⟨bq BK257⟩, ⟨bw HB⟩⟩
          case rest =>
           clear HC21; (try clear c1); (try clear c2); (try clear p2); (try clear c4); (try clear c4b0); (try clear c4b1); (try clear c5); (try clear c5b0); (try clear c5b1); (try clear c6); (try clear p6); (try clear q6); (try clear hx6); (try clear qi6); (try clear c8); (try clear c9); (try clear c9b0); (try clear c9b1); (try clear c13); (try clear c13b0); (try clear c14); (try clear c14b0); (try clear c14b1); (try clear c15); (try clear c15b0); (try clear c15b1); (try clear c18); (try clear c18b0); (try clear c18b1); (try clear c19); (try clear c19b0); (try clear c19b1); (try clear c22); (try clear p2); (try clear p6); (try clear q6); obtain ⟨kq, x57_20, rfl, HA, HJ20, BK257, HB⟩ := hcut
           cases kq with
           | zero => exact absurd HA.out (by simp [r1_Parse.j2])
           | succ kj20 =>
            have H := HA.out; clear HA; simp only [r1_Parse.j2] at H
            by_cases c23 : x57_20 = true
            ·subst c23; (have H1 : (some (0, 0, 7)) = some (r1, r2, r3) := by rw [if_pos rfl] at H; exact H); clear H; have H := H1; clear H1; simp only [Option.some.injEq, Prod.mk.injEq] at H; obtain ⟨rfl, rfl, rfl⟩ := H; have hcz24_0 : wc.cell? ⟨gb257, 0, none⟩ = some (.int .i64 0) := bc BK257 0; have hcz24_1 : wc.cell? ⟨gb257, 1, none⟩ = some (.int .i64 0) := bc BK257 1; have hfz24_0 := blk_frozen BK257.out 0; have hfz24_1 := blk_frozen BK257.out 1; (go_wp2); refine bodyPost_ret (results_ct rfl _ _ gb257 24 #[.int .i64 0, .int .i64 0] (0, 0) _ rfl (by refine pe ?_; refine blk_put (cs := #[.int .i64 0, .int .i64 0]) ?_ 1 _ rfl; refine pe ?_; refine blk_put (cs := #[.int .i64 0, .int .i64 0]) ?_ 0 _ rfl; refine pe ?_; exact BK257.out) Tryd.underlying24 rfl (by kernel_rfl)) rfl ?_; exact ⟨by first | rfl | (simp [errW_none, errW_some] <;> rfl) | (simp only [← hji17]; first | rfl | (simp [errW_none, errW_some] <;> rfl)) | (simp [*, errW_none, errW_some] <;> rfl), bw HB⟩
            ·replace c23 := Bool.eq_false_iff.mpr c23; subst c23; (have H1 : (if t262 = 0 then (some (0, 0, 2)) else (if x4_1 = true then ((r1_Reduce.f kj20 (decide (t260 > 0)) 0 t260 0 t262).bind fun bt264 => (some (bt264.1, bt264.2.1, bt264.2.2))) else ((r1_Reduce.f kj20 false 0 t260 0 t262).bind fun bt267 => (some (bt267.1, bt267.2.1, bt267.2.2))))) = some (r1, r2, r3) := by rw [if_neg (show ¬ (false = true) by decide)] at H; exact H); clear H; have H := H1; clear H1
             by_cases c25 : t262 = 0
             ·rw [if_pos c25] at H; have c25b0 : (t262 == 0) = true := beq_iff_eq.mpr c25; have c25b1 : (t262 != 0) = false := bne_eq_false_iff_eq.mpr c25; clear c25; simp only [Option.some.injEq, Prod.mk.injEq] at H; obtain ⟨rfl, rfl, rfl⟩ := H; have hcz26_0 : wc.cell? ⟨gb257, 0, none⟩ = some (.int .i64 0) := bc BK257 0; have hcz26_1 : wc.cell? ⟨gb257, 1, none⟩ = some (.int .i64 0) := bc BK257 1; have hfz26_0 := blk_frozen BK257.out 0; have hfz26_1 := blk_frozen BK257.out 1; (go_wp2); refine bodyPost_ret (results_ct rfl _ _ gb257 24 #[.int .i64 0, .int .i64 0] (0, 0) _ rfl (by refine pe ?_; refine blk_put (cs := #[.int .i64 0, .int .i64 0]) ?_ 1 _ rfl; refine pe ?_; refine blk_put (cs := #[.int .i64 0, .int .i64 0]) ?_ 0 _ rfl; refine pe ?_; exact BK257.out) Tryd.underlying24 rfl (by kernel_rfl)) rfl ?_; exact ⟨by first | rfl | (simp [errW_none, errW_some] <;> rfl) | (simp only [← hji17]; first | rfl | (simp [errW_none, errW_some] <;> rfl)) | (simp [*, errW_none, errW_some] <;> rfl), bw HB⟩
             ·rw [if_neg c25] at H; have c25b0 : (t262 == 0) = false := beq_eq_false_iff_ne.mpr c25; have c25b1 : (t262 != 0) = true := bne_iff_ne.mpr c25
              by_cases c27 : x4_1 = true
              ·subst c27; (have H1 : ((r1_Reduce.f kj20 (decide (t260 > 0)) 0 t260 0 t262).bind fun bt264 => (some (bt264.1, bt264.2.1, bt264.2.2))) = some (r1, r2, r3) := by rw [if_pos rfl] at H; exact H); clear H; have H := H1; clear H1; replace H := Option.bind_eq_some_iff.mp H; obtain ⟨⟨t264, t265, t266⟩, A280, H⟩ := H; (try dsimp only at H); have A28 := Aside0.mk A280; clear A280; simp only [Option.some.injEq, Prod.mk.injEq] at H; obtain ⟨rfl, rfl, rfl⟩ := H; (go_wp2_with (first | ((with_reducible refine gate_callee (f := 62) rfl ?_); refine gl (some 71) Tryd.func62 #[.bool (decide (t260 > 0)), .agg #[.int .u64 0, .int .u64 t260], .agg #[.int .u64 0, .int .u64 t262]] ?_; (with_reducible refine (r1_Reduce.calls kj20 (decide (t260 > 0)) 0 t260 0 t262 t264 t265 t266 _ A28.out).mono ?_); rintro e w29 ⟨rfl, hb⟩; refine ⟨_, rfl, ?_⟩; replace BK257 := kb BK257 hb; replace HB := wb HB hb; (try clear hb); (try clear hb2); (try clear hk); (try clear hi); have hcz30_0 : w29.cell? ⟨gb257, 0, none⟩ = some (.int .i64 0) := bc BK257 0; have hcz30_1 : w29.cell? ⟨gb257, 1, none⟩ = some (.int .i64 0) := bc BK257 1; have hfz30_0 := blk_frozen BK257.out 0; have hfz30_1 := blk_frozen BK257.out 1))); refine bodyPost_ret (results_ct rfl _ _ gb257 24 #[.int .i64 t264, .int .i64 t265] (0, 0) _ rfl (by refine pe ?_; refine blk_put (cs := #[.int .i64 t264, .int .i64 0]) ?_ 1 _ rfl; refine pe ?_; refine blk_put (cs := #[.int .i64 0, .int .i64 0]) ?_ 0 _ rfl; refine pe ?_; exact BK257.out) Tryd.underlying24 rfl (by kernel_rfl)) rfl ?_; exact ⟨by first | rfl | (simp [errW_none, errW_some] <;> rfl) | (simp only [← hji17]; first | rfl | (simp [errW_none, errW_some] <;> rfl)) | (simp [*, errW_none, errW_some] <;> rfl), bw HB⟩
              ·replace c27 := Bool.eq_false_iff.mpr c27; subst c27; (have H1 : ((r1_Reduce.f kj20 false 0 t260 0 t262).bind fun bt267 => (some (bt267.1, bt267.2.1, bt267.2.2))) = some (r1, r2, r3) := by rw [if_neg (show ¬ (false = true) by decide)] at H; exact H); clear H; have H := H1; clear H1; replace H := Option.bind_eq_some_iff.mp H; obtain ⟨⟨t267, t268, t269⟩, A310, H⟩ := H; (try dsimp only at H); have A31 := Aside0.mk A310; clear A310; simp only [Option.some.injEq, Prod.mk.injEq] at H; obtain ⟨rfl, rfl, rfl⟩ := H; (go_wp2_with (first | ((with_reducible refine gate_callee (f := 62) rfl ?_); refine gl (some 71) Tryd.func62 #[.bool false, .agg #[.int .u64 0, .int .u64 t260], .agg #[.int .u64 0, .int .u64 t262]] ?_; (with_reducible refine (r1_Reduce.calls kj20 false 0 t260 0 t262 t267 t268 t269 _ A31.out).mono ?_); rintro e w32 ⟨rfl, hb⟩; refine ⟨_, rfl, ?_⟩; replace BK257 := kb BK257 hb; replace HB := wb HB hb; (try clear hb); (try clear hb2); (try clear hk); (try clear hi); have hcz33_0 : w32.cell? ⟨gb257, 0, none⟩ = some (.int .i64 0) := bc BK257 0; have hcz33_1 : w32.cell? ⟨gb257, 1, none⟩ = some (.int .i64 0) := bc BK257 1; have hfz33_0 := blk_frozen BK257.out 0; have hfz33_1 := blk_frozen BK257.out 1))); refine bodyPost_ret (results_ct rfl _ _ gb257 24 #[.int .i64 t267, .int .i64 t268] (0, 0) _ rfl (by refine pe ?_; refine blk_put (cs := #[.int .i64 t267, .int .i64 0]) ?_ 1 _ rfl; refine pe ?_; refine blk_put (cs := #[.int .i64 0, .int .i64 0]) ?_ 0 _ rfl; refine pe ?_; exact BK257.out) Tryd.underlying24 rfl (by kernel_rfl)) rfl ?_; exact ⟨by first | rfl | (simp [errW_none, errW_some] <;> rfl) | (simp only [← hji17]; first | rfl | (simp [errW_none, errW_some] <;> rfl)) | (simp [*, errW_none, errW_some] <;> rfl), bw HB⟩
         ·rw [if_neg c19] at H; exact absurd H (by simp)
        ·rw [if_neg c18] at H; exact absurd H (by simp)
       ·rw [if_neg c15] at H; exact absurd H (by simp)
      ·rw [if_neg c14] at H; exact absurd H (by simp)
     ·rw [if_neg c13] at H; have c13b0 : decide (0 ≤ t258) = false := decide_eq_false c13; clear c13
      (first | rw [c13b0] | (simp only [i64_w, i32_w]; rw [c13b0]) | skip)
      by_cases c34 : t259 < 0
      ·rw [if_pos c34] at H; have c34b0 : decide (t259 < 0) = true := decide_eq_true c34; clear c34; replace H := Option.bind_eq_some_iff.mp H; obtain ⟨⟨t270, t271⟩, A350, H⟩ := H; (try dsimp only at H); have A35 := Aside0.mk A350; clear A350
       by_cases c36 : t271 = true
       ·subst c36; (have H1 : (if x4_1 = true then ((r1_Reduce.f kj6 (decide (t270 > 0)) 0 t270 0 1).bind fun bt272 => (some (bt272.1, bt272.2.1, bt272.2.2))) else ((r1_Reduce.f kj6 false 0 t270 0 1).bind fun bt275 => (some (bt275.1, bt275.2.1, bt275.2.2)))) = some (r1, r2, r3) := by rw [if_pos rfl] at H; exact H); clear H; have H := H1; clear H1
        by_cases c37 : x4_1 = true
        ·subst c37; (have H1 : ((r1_Reduce.f kj6 (decide (t270 > 0)) 0 t270 0 1).bind fun bt272 => (some (bt272.1, bt272.2.1, bt272.2.2))) = some (r1, r2, r3) := by rw [if_pos rfl] at H; exact H); clear H; have H := H1; clear H1; replace H := Option.bind_eq_some_iff.mp H; obtain ⟨⟨t272, t273, t274⟩, A380, H⟩ := H; (try dsimp only at H); have A38 := Aside0.mk A380; clear A380; simp only [Option.some.injEq, Prod.mk.injEq] at H; obtain ⟨rfl, rfl, rfl⟩ := H; (go_wp2_with (first | ((with_reducible refine gate_callee (f := 61) rfl ?_); refine gl (some 78) Tryd.func61 #[.string x0_6, .int .i64 19] ?_; (with_reducible refine (r1_number.calls kj6 x0_6 19 t270 true _ A35.out).mono ?_); rintro e w' ⟨rfl, ⟨nd, rfl⟩⟩; refine ⟨_, rfl, ?_⟩; (try (rw [drewN_self wc]; generalize hq_ : World.drewN wc _ = wc; replace BK257 : Aside0 (wc.heap[gb257]? = some (.cells #[.int .i64 0, .int .i64 0] 24 (0, 0))) := ⟨by rw [← hq_]; exact (bq BK257)⟩; replace HB : Aside0 (Below w.heap.size w wc) := ⟨by rw [← hq_]; exact (bw HB)⟩; clear hq_))) | ((with_reducible refine gate_callee (f := 62) rfl ?_); refine gl (some 92) Tryd.func62 #[.bool (decide (t270 > 0)), .agg #[.int .u64 0, .int .u64 t270], .agg #[.int .u64 0, .int .u64 1]] ?_; (with_reducible refine (r1_Reduce.calls kj6 (decide (t270 > 0)) 0 t270 0 1 t272 t273 t274 _ A38.out).mono ?_); rintro e w39 ⟨rfl, hb⟩; refine ⟨_, rfl, ?_⟩; replace BK257 := kb BK257 hb; replace HB := wb HB hb; (try clear hb); (try clear hb2); (try clear hk); (try clear hi); have hcz40_0 : w39.cell? ⟨gb257, 0, none⟩ = some (.int .i64 0) := bc BK257 0; have hcz40_1 : w39.cell? ⟨gb257, 1, none⟩ = some (.int .i64 0) := bc BK257 1; have hfz40_0 := blk_frozen BK257.out 0; have hfz40_1 := blk_frozen BK257.out 1))); refine bodyPost_ret (results_ct rfl _ _ gb257 24 #[.int .i64 t272, .int .i64 t273] (0, 0) _ rfl (by refine pe ?_; refine blk_put (cs := #[.int .i64 t272, .int .i64 0]) ?_ 1 _ rfl; refine pe ?_; refine blk_put (cs := #[.int .i64 0, .int .i64 0]) ?_ 0 _ rfl; refine pe ?_; exact BK257.out) Tryd.underlying24 rfl (by kernel_rfl)) rfl ?_; exact ⟨by first | rfl | (simp [errW_none, errW_some] <;> rfl) | (simp [*, errW_none, errW_some] <;> rfl), bw HB⟩
        ·replace c37 := Bool.eq_false_iff.mpr c37; subst c37; (have H1 : ((r1_Reduce.f kj6 false 0 t270 0 1).bind fun bt275 => (some (bt275.1, bt275.2.1, bt275.2.2))) = some (r1, r2, r3) := by rw [if_neg (show ¬ (false = true) by decide)] at H; exact H); clear H; have H := H1; clear H1; replace H := Option.bind_eq_some_iff.mp H; obtain ⟨⟨t275, t276, t277⟩, A410, H⟩ := H; (try dsimp only at H); have A41 := Aside0.mk A410; clear A410; simp only [Option.some.injEq, Prod.mk.injEq] at H; obtain ⟨rfl, rfl, rfl⟩ := H; (go_wp2_with (first | ((with_reducible refine gate_callee (f := 61) rfl ?_); refine gl (some 78) Tryd.func61 #[.string x0_6, .int .i64 19] ?_; (with_reducible refine (r1_number.calls kj6 x0_6 19 t270 true _ A35.out).mono ?_); rintro e w' ⟨rfl, ⟨nd, rfl⟩⟩; refine ⟨_, rfl, ?_⟩; (try (rw [drewN_self wc]; generalize hq_ : World.drewN wc _ = wc; replace BK257 : Aside0 (wc.heap[gb257]? = some (.cells #[.int .i64 0, .int .i64 0] 24 (0, 0))) := ⟨by rw [← hq_]; exact (bq BK257)⟩; replace HB : Aside0 (Below w.heap.size w wc) := ⟨by rw [← hq_]; exact (bw HB)⟩; clear hq_))) | ((with_reducible refine gate_callee (f := 62) rfl ?_); refine gl (some 92) Tryd.func62 #[.bool false, .agg #[.int .u64 0, .int .u64 t270], .agg #[.int .u64 0, .int .u64 1]] ?_; (with_reducible refine (r1_Reduce.calls kj6 false 0 t270 0 1 t275 t276 t277 _ A41.out).mono ?_); rintro e w42 ⟨rfl, hb⟩; refine ⟨_, rfl, ?_⟩; replace BK257 := kb BK257 hb; replace HB := wb HB hb; (try clear hb); (try clear hb2); (try clear hk); (try clear hi); have hcz43_0 : w42.cell? ⟨gb257, 0, none⟩ = some (.int .i64 0) := bc BK257 0; have hcz43_1 : w42.cell? ⟨gb257, 1, none⟩ = some (.int .i64 0) := bc BK257 1; have hfz43_0 := blk_frozen BK257.out 0; have hfz43_1 := blk_frozen BK257.out 1))); refine bodyPost_ret (results_ct rfl _ _ gb257 24 #[.int .i64 t275, .int .i64 t276] (0, 0) _ rfl (by refine pe ?_; refine blk_put (cs := #[.int .i64 t275, .int .i64 0]) ?_ 1 _ rfl; refine pe ?_; refine blk_put (cs := #[.int .i64 0, .int .i64 0]) ?_ 0 _ rfl; refine pe ?_; exact BK257.out) Tryd.underlying24 rfl (by kernel_rfl)) rfl ?_; exact ⟨by first | rfl | (simp [errW_none, errW_some] <;> rfl) | (simp [*, errW_none, errW_some] <;> rfl), bw HB⟩
       ·replace c36 := Bool.eq_false_iff.mpr c36; subst c36; (have H1 : (some (0, 0, 7)) = some (r1, r2, r3) := by rw [if_neg (show ¬ (false = true) by decide)] at H; exact H); clear H; have H := H1; clear H1; simp only [Option.some.injEq, Prod.mk.injEq] at H; obtain ⟨rfl, rfl, rfl⟩ := H; (go_wp2_with (first | ((with_reducible refine gate_callee (f := 61) rfl ?_); refine gl (some 78) Tryd.func61 #[.string x0_6, .int .i64 19] ?_; (with_reducible refine (r1_number.calls kj6 x0_6 19 t270 false _ A35.out).mono ?_); rintro e w' ⟨rfl, ⟨nd, rfl⟩⟩; refine ⟨_, rfl, ?_⟩; (try (rw [drewN_self wc]; generalize hq_ : World.drewN wc _ = wc; replace BK257 : Aside0 (wc.heap[gb257]? = some (.cells #[.int .i64 0, .int .i64 0] 24 (0, 0))) := ⟨by rw [← hq_]; exact (bq BK257)⟩; replace HB : Aside0 (Below w.heap.size w wc) := ⟨by rw [← hq_]; exact (bw HB)⟩; clear hq_)); have hcz44_0 : wc.cell? ⟨gb257, 0, none⟩ = some (.int .i64 0) := bc BK257 0; have hcz44_1 : wc.cell? ⟨gb257, 1, none⟩ = some (.int .i64 0) := bc BK257 1; have hfz44_0 := blk_frozen BK257.out 0; have hfz44_1 := blk_frozen BK257.out 1))); refine bodyPost_ret (results_ct rfl _ _ gb257 24 #[.int .i64 0, .int .i64 0] (0, 0) _ rfl (by refine pe ?_; refine blk_put (cs := #[.int .i64 0, .int .i64 0]) ?_ 1 _ rfl; refine pe ?_; refine blk_put (cs := #[.int .i64 0, .int .i64 0]) ?_ 0 _ rfl; refine pe ?_; exact BK257.out) Tryd.underlying24 rfl (by kernel_rfl)) rfl ?_; exact ⟨by first | rfl | (simp [errW_none, errW_some] <;> rfl) | (simp [*, errW_none, errW_some] <;> rfl), bw HB⟩
      ·rw [if_neg c34] at H; have c34b0 : decide (t259 < 0) = false := decide_eq_false c34; clear c34
       by_cases c45 : 0 ≤ t259
       ·rw [if_pos c45] at H; have c45b0 := eq_true c45; have c45b1 : decide (0 ≤ t259) = true := decide_eq_true c45; clear c45
        by_cases c46 : t259 ≤ (x0_6.size : Int)
        ·rw [if_pos c46] at H; have c46b0 := eq_true c46; have c46b1 : decide (t259 ≤ (x0_6.size : Int)) = true := decide_eq_true c46; clear c46; replace H := Option.bind_eq_some_iff.mp H; obtain ⟨⟨t278, t279⟩, A470, H⟩ := H; (try dsimp only at H); have A47 := Aside0.mk A470; clear A470; obtain ⟨ji48, hji48⟩ : ∃ j_ : Int, (wrap64 (t259 + 1)) = j_ := ⟨_, rfl⟩; (replace H : (if 0 ≤ (ji48) then (if (ji48) ≤ (x0_6.size : Int) then ((r1_number.f kj6 (x0_6.extract ((ji48) : Int).toNat x0_6.size) 9).bind fun bt280 => (if t279 = true then (r1_Parse.j3 kj6 x0_6 x4_1 t259 t278 bt280.1 (!bt280.2)) else (r1_Parse.j3 kj6 x0_6 x4_1 t259 t278 bt280.1 true))) else (none)) else (none)) = some (r1, r2, r3) := by first | (rw [hji48] at H; exact H) | (simp only [hji48] at H ⊢; exact H)); (try rw [hji48] at A47); have hji48w : (IntKind.i64.wrap (t259 + 1)) = ji48 := (i64_w _).trans hji48
         by_cases c49 : 0 ≤ (ji48)
         ·rw [if_pos c49] at H; have c49b0 := eq_true c49; have c49b1 : decide (0 ≤ (ji48)) = true := decide_eq_true c49; clear c49
          by_cases c50 : (ji48) ≤ (x0_6.size : Int)
          ·rw [if_pos c50] at H; have c50b0 := eq_true c50; have c50b1 : decide ((ji48) ≤ (x0_6.size : Int)) = true := decide_eq_true c50; clear c50; replace H := Option.bind_eq_some_iff.mp H; obtain ⟨⟨t280, t281⟩, A510, H⟩ := H; (try dsimp only at H); have A51 := Aside0.mk A510; clear A510; have HC52 := Aside0.mk H; clear H
           go_upto_region 20 with (first | ((with_reducible refine gate_callee (f := 61) rfl ?_); refine gl (some 99) Tryd.func61 #[.string (x0_6.extract 0 (t259 : Int).toNat), .int .i64 19] ?_; (with_reducible refine (r1_number.calls kj6 (x0_6.extract 0 (t259 : Int).toNat) 19 t278 t279 _ A47.out).mono ?_); rintro e w' ⟨rfl, ⟨nd, rfl⟩⟩; refine ⟨_, rfl, ?_⟩) | ((with_reducible refine gate_callee (f := 61) rfl ?_); refine goesL_ (some 107) rfl rfl Tryd.func61 (by kernel_rfl) rfl #[.string (x0_6.extract ((ji48) : Int).toNat x0_6.size), .int .i64 9] rfl (by (try simp only [List.map_toArray, List.map_cons, List.map_nil]); first | done | (simp only [hji48]; rfl) | rfl | (simp only [List.length_drop, List.length_take]; rfl)) ?_; (with_reducible refine (r1_number.calls kj6 (x0_6.extract ((ji48) : Int).toNat x0_6.size) 9 t280 t281 _ A51.out).mono ?_); rintro e w' ⟨rfl, ⟨nd, rfl⟩⟩; refine ⟨_, rfl, ?_⟩))
           (try simp only [Act.put, List.setIfInBounds_toArray, List.set_cons_zero, List.set_cons_succ])
           go_cut [115] (fun v115 wc => ∃ (kq : Nat) (x115_51 : Bool), v115 = .bool x115_51 ∧ Aside0 (r1_Parse.j3 kq x0_6 x4_1 t259 t278 t280 x115_51 = some (r1, r2, r3)) ∧ Aside0 (kq ≤ kj6) ∧ Aside0 (wc.heap[gb257]? = some (.cells #[.int .i64 0, .int .i64 0] 24 (0, 0))) ∧ Aside0 (Below w.heap.size w wc))
           case first =>
            have H := HC52.out; clear HC52
            by_cases c53 : t279 = true
            ·subst c53; (have H1 : (r1_Parse.j3 kj6 x0_6 x4_1 t259 t278 t280 (!t281)) = some (r1, r2, r3) := by rw [if_pos rfl] at H; exact H); clear H; have H := H1; clear H1; have H' := Aside0.mk H; clear H; go_wp2
             go_meet
             case rel => exact ⟨_, (!t281), (by first | rfl | (simp; done) | (simp [*]; done)), H', ⟨by have := HJ1.out; have := HJ6.out; first | omega | exact Nat.le_refl _⟩, ⟨bq BK257⟩, ⟨bw HB⟩⟩
            ·replace c53 := Bool.eq_false_iff.mpr c53; subst c53; (have H1 : (r1_Parse.j3 kj6 x0_6 x4_1 t259 t278 t280 true) = some (r1, r2, r3) := by rw [if_neg (show ¬ (false = true) by decide)] at H; exact H); clear H; have H := H1; clear H1; have H' := Aside0.mk H; clear H; go_wp2
             go_meet
             case rel => exact ⟨_, (true), (by first | rfl | (simp; done) | (simp [*]; done)), H', ⟨by have := HJ1.out; have := HJ6.out; first | omega | exact Nat.le_refl _⟩, ⟨bq BK257⟩, ⟨bw HB⟩⟩
           case rest =>
            clear HC52; (try clear c1); (try clear c2); (try clear p2); (try clear c3); (try clear c4); (try clear c4b0); (try clear c4b1); (try clear c5); (try clear c5b0); (try clear c5b1); (try clear c6); (try clear p6); (try clear q6); (try clear hx6); (try clear qi6); (try clear c8); (try clear c9); (try clear c9b0); (try clear c9b1); (try clear c13); (try clear c13b0); (try clear c14); (try clear c14b0); (try clear c14b1); (try clear c15); (try clear c15b0); (try clear c15b1); (try clear c18); (try clear c18b0); (try clear c18b1); (try clear c19); (try clear c19b0); (try clear c19b1); (try clear c22); (try clear c23); (try clear c25); (try clear c25b0); (try clear c25b1); (try clear c27); (try clear c34); (try clear c34b0); (try clear c36); (try clear c37); (try clear c45); (try clear c45b0); (try clear c45b1); (try clear c46); (try clear c46b0); (try clear c46b1); (try clear c49); (try clear c49b0); (try clear c49b1); (try clear c50); (try clear c50b0); (try clear c50b1); (try clear c53); (try clear hcz24_0); (try clear hcz24_1); (try clear hcz26_0); (try clear hcz26_1); (try clear hcz30_0); (try clear hcz30_1); (try clear hcz33_0); (try clear hcz33_1); (try clear hcz40_0); (try clear hcz40_1); (try clear hcz43_0); (try clear hcz43_1); (try clear hcz44_0); (try clear hcz44_1); (try clear hfz24_0); (try clear hfz24_1); (try clear hfz26_0); (try clear hfz26_1); (try clear hfz30_0); (try clear hfz30_1); (try clear hfz33_0); (try clear hfz33_1); (try clear hfz40_0); (try clear hfz40_1); (try clear hfz43_0); (try clear hfz43_1); (try clear hfz44_0); (try clear hfz44_1); (try clear p2); (try clear p6); (try clear q6); obtain ⟨kq, x115_51, rfl, HA, HJ51, BK257, HB⟩ := hcut
            cases kq with
            | zero => exact absurd HA.out (by simp [r1_Parse.j3])
            | succ kj51 =>
             have H := HA.out; clear HA; simp only [r1_Parse.j3] at H
             by_cases c54 : x115_51 = true
             ·subst c54; (have H1 : (some (0, 0, 7)) = some (r1, r2, r3) := by rw [if_pos rfl] at H; exact H); clear H; have H := H1; clear H1; simp only [Option.some.injEq, Prod.mk.injEq] at H; obtain ⟨rfl, rfl, rfl⟩ := H; have hcz55_0 : wc.cell? ⟨gb257, 0, none⟩ = some (.int .i64 0) := bc BK257 0; have hcz55_1 : wc.cell? ⟨gb257, 1, none⟩ = some (.int .i64 0) := bc BK257 1; have hfz55_0 := blk_frozen BK257.out 0; have hfz55_1 := blk_frozen BK257.out 1; (go_wp2); refine bodyPost_ret (results_ct rfl _ _ gb257 24 #[.int .i64 0, .int .i64 0] (0, 0) _ rfl (by refine pe ?_; refine blk_put (cs := #[.int .i64 0, .int .i64 0]) ?_ 1 _ rfl; refine pe ?_; refine blk_put (cs := #[.int .i64 0, .int .i64 0]) ?_ 0 _ rfl; refine pe ?_; exact BK257.out) Tryd.underlying24 rfl (by kernel_rfl)) rfl ?_; exact ⟨by first | rfl | (simp [errW_none, errW_some] <;> rfl) | (simp only [← hji48]; first | rfl | (simp [errW_none, errW_some] <;> rfl)) | (simp [*, errW_none, errW_some] <;> rfl), bw HB⟩
             ·replace c54 := Bool.eq_false_iff.mpr c54; subst c54; (have H1 : (r1_Parse.l0 kj51 x0_6 x4_1 t278 t280 1 (wrap64 (t259 + 1))) = some (r1, r2, r3) := by rw [if_neg (show ¬ (false = true) by decide)] at H; exact H); clear H; have H := H1; clear H1; have H' := Aside0.mk H; clear H; (go_wp2); (try simp only [Act.put, List.setIfInBounds_toArray, List.set_cons_zero, List.set_cons_succ])
              go_loopg [17, 18] kj51 (fun kq v17 v18 w' => ∃ (x17_4 : Int) (x18_4 : Int), v17 = .int .u64 x17_4 ∧ v18 = .int .i64 x18_4 ∧ Aside0 (r1_Parse.l0 kq x0_6 x4_1 t278 t280 x17_4 x18_4 = some (r1, r2, r3)) ∧ Aside0 (kq ≤ kj51) ∧ Aside0 (w'.heap[gb257]? = some (.cells #[.int .i64 0, .int .i64 0] 24 (0, 0))) ∧ Aside0 (Below w.heap.size w w'))
              case atStart => exact ⟨(1), (wrap64 (t259 + 1)), (by first | rfl | (simp; done) | (simp [*]; done)), (by first | rfl | (simp; done) | (simp [*]; done)), H', ⟨Nat.le_refl _⟩, ⟨bq BK257⟩, ⟨bw HB⟩⟩
              case round =>
               clear H'; (try clear c1); (try clear c2); (try clear p2); (try clear c3); (try clear c4); (try clear c4b0); (try clear c4b1); (try clear c5); (try clear c5b0); (try clear c5b1); (try clear c6); (try clear p6); (try clear q6); (try clear hx6); (try clear qi6); (try clear c8); (try clear c9); (try clear c9b0); (try clear c9b1); (try clear c13); (try clear c13b0); (try clear c14); (try clear c14b0); (try clear c14b1); (try clear c15); (try clear c15b0); (try clear c15b1); (try clear c18); (try clear c18b0); (try clear c18b1); (try clear c19); (try clear c19b0); (try clear c19b1); (try clear c22); (try clear c23); (try clear c25); (try clear c25b0); (try clear c25b1); (try clear c27); (try clear c34); (try clear c34b0); (try clear c36); (try clear c37); (try clear c45); (try clear c45b0); (try clear c45b1); (try clear c46); (try clear c46b0); (try clear c46b1); (try clear c49); (try clear c49b0); (try clear c49b1); (try clear c50); (try clear c50b0); (try clear c50b1); (try clear c53); (try clear c54); (try clear hcz24_0); (try clear hcz24_1); (try clear hcz26_0); (try clear hcz26_1); (try clear hcz30_0); (try clear hcz30_1); (try clear hcz33_0); (try clear hcz33_1); (try clear hcz40_0); (try clear hcz40_1); (try clear hcz43_0); (try clear hcz43_1); (try clear hcz44_0); (try clear hcz44_1); (try clear hcz55_0); (try clear hcz55_1); (try clear hfz24_0); (try clear hfz24_1); (try clear hfz26_0); (try clear hfz26_1); (try clear hfz30_0); (try clear hfz30_1); (try clear hfz33_0); (try clear hfz33_1); (try clear hfz40_0); (try clear hfz40_1); (try clear hfz43_0); (try clear hfz43_1); (try clear hfz44_0); (try clear hfz44_1); (try clear hfz55_0); (try clear hfz55_1); (try clear p2); (try clear p6); (try clear q6); obtain ⟨x17_4, x18_4, rfl, rfl, HA, HK4, BK257, HB⟩ := hrel
               cases gk with
               | zero => exact absurd HA.out (by simp [r1_Parse.l0])
               | succ k4 =>
                have H := HA.out; clear HA; simp only [r1_Parse.l0] at H
                by_cases c56 : x18_4 < (x0_6.size : Int)
                ·rw [if_pos c56] at H; have c56b0 : decide (x18_4 < (x0_6.size : Int)) = true := decide_eq_true c56; clear c56; have H' := Aside0.mk H; clear H; go_wp2
                 go_roundg k4
                 case measure => have := HJ1.out; have := HJ6.out; have := HJ51.out; have := HK4.out; omega
                 case rel => exact ⟨(IntKind.u64.wrap (x17_4 * 10)), (wrap64 (x18_4 + 1)), (by first | rfl | (simp; done) | (simp [*]; done)), (by first | rfl | (simp; done) | (simp [*]; done)), H', ⟨by have := HJ1.out; have := HJ6.out; have := HJ51.out; have := HK4.out; omega⟩, ⟨bq BK257⟩, ⟨bw HB⟩⟩
                ·rw [if_neg c56] at H; have c56b0 : decide (x18_4 < (x0_6.size : Int)) = false := decide_eq_false c56; clear c56; replace H := Option.bind_eq_some_iff.mp H; obtain ⟨⟨t282, t283⟩, A570, H⟩ := H; (try dsimp only at H); have A57 := Aside0.mk A570; clear A570; replace H := Option.bind_eq_some_iff.mp H; obtain ⟨⟨t284, t285⟩, A580, H⟩ := H; (try dsimp only at H); have A58 := Aside0.mk A580; clear A580
                 by_cases c59 : x4_1 = true
                 ·subst c59; (have H1 : ((r1_Reduce.f k4 (!(t284 == 0) || (!(t285 == 0))) t284 t285 0 x17_4).bind fun bt287 => (some (bt287.1, bt287.2.1, bt287.2.2))) = some (r1, r2, r3) := by rw [if_pos rfl] at H; exact H); clear H; have H := H1; clear H1; replace H := Option.bind_eq_some_iff.mp H; obtain ⟨⟨t287, t288, t289⟩, A600, H⟩ := H; (try dsimp only at H); have A60 := Aside0.mk A600; clear A600; simp only [Option.some.injEq, Prod.mk.injEq] at H; obtain ⟨rfl, rfl, rfl⟩ := H; (try go_wp2_with (first | ((with_reducible refine gate_callee (f := 50) rfl ?_); refine gl (some 129) Tryd.func50 #[.int .u64 t278, .int .u64 x17_4] ?_; (with_reducible refine (r1_Product.calls t278 x17_4 t282 t283 _ A57.out).mono ?_); rintro e w61 ⟨rfl, hb⟩; refine ⟨_, rfl, ?_⟩; replace BK257 := kb BK257 hb; replace HB := wb HB hb; (try clear hb); (try clear hb2); (try clear hk); (try clear hi)) | ((with_reducible refine gate_callee (f := 53) rfl ?_); refine gl (some 132) Tryd.func53 #[.agg #[.int .u64 t282, .int .u64 t283], .agg #[.int .u64 0, .int .u64 t280]] ?_; (with_reducible refine (r1_Plus.calls t282 t283 0 t280 t284 t285 _ A58.out).mono ?_); rintro e w62 ⟨rfl, hb⟩; refine ⟨_, rfl, ?_⟩; replace BK257 := kb BK257 hb; replace HB := wb HB hb; (try clear hb); (try clear hb2); (try clear hk); (try clear hi)) | ((with_reducible refine gate_dst (N := 19) rfl ?_); refine bx (N := 19) (cs := #[.int .u64 0, .int .u64 0]) (t := 65) ?_; intro gb286 hg w63 hbox hb; have BK286 := Aside0.mk (hbox); have GW286 := gs HB hg; have GE286 := gs HB hg; have NB257_286 := nl BK257 hg; have NB286_257 := nr BK257 hg; replace BK257 := kb BK257 hb; replace HB := wb HB hb; clear hb hbox hg; obtain ⟨hnb64, hnc64⟩ := n2 NB286_257; have hcz65_0 : w63.cell? ⟨gb286, 0, none⟩ = some (.int .u64 0) := bc BK286 0; have hcz65_1 : w63.cell? ⟨gb286, 1, none⟩ = some (.int .u64 0) := bc BK286 1; have hfz65_0 := blk_frozen BK286.out 0; have hfz65_1 := blk_frozen BK286.out 1))); have n0_ : Aside0 (((w63.setCell ⟨gb286, 0, none⟩ (.int .u64 t284)).setCell ⟨gb286, 1, none⟩ (.int .u64 t285)).heap[gb257]? = some (.cells #[.int .i64 0, .int .i64 0] 24 (0, 0))) := ⟨bq BK257⟩; have n1_ : Aside0 (((w63.setCell ⟨gb286, 0, none⟩ (.int .u64 t284)).setCell ⟨gb286, 1, none⟩ (.int .u64 t285)).heap[gb286]? = some (.cells #[.int .u64 t284, .int .u64 t285] 65 (0, 0))) := ⟨by refine pe ?_; refine blk_put (cs := #[.int .u64 t284, .int .u64 0]) ?_ 1 _ rfl; refine pe ?_; refine blk_put (cs := #[.int .u64 0, .int .u64 0]) ?_ 0 _ rfl; refine pe ?_; exact BK286.out⟩; have n2_ : Aside0 (Below w.heap.size w ((w63.setCell ⟨gb286, 0, none⟩ (.int .u64 t284)).setCell ⟨gb286, 1, none⟩ (.int .u64 t285))) := ⟨bw HB⟩; (try clear BK257); (try clear BK286); (try clear HB); (generalize ((w63.setCell ⟨gb286, 0, none⟩ (.int .u64 t284)).setCell ⟨gb286, 1, none⟩ (.int .u64 t285)) = w66 at n0_ n1_ n2_ ⊢); have BK257 := n0_; have BK286 := n1_; have HB := n2_; clear n0_ n1_ n2_; have n0_ := Aside0.mk (blk_drew BK257.out); have n1_ := Aside0.mk (blk_drew BK286.out); have n2_ := Aside0.mk (below_drew1 HB.out); clear BK257; clear BK286; clear HB; have BK257 := n0_; have BK286 := n1_; have HB := n2_; clear n0_ n1_ n2_; refine start_ (n := 14) (S := fun w' => w'.cell? ⟨gb286, 0, none⟩ = some (.int .u64 t284) ∧ w'.cell? ⟨gb286, 1, none⟩ = some (.int .u64 t285)) (ds := []) #[false, false, false, false, false, false, false, false, false, false, false, false, false, false] (by kernel_rfl) rfl rfl ⟨bc BK286 0, bc BK286 1⟩ (fun hHeld => ?_); refine with_tabW r1_Parse.tab28 r1_Parse.bits28 (fun HT_ HW_ => ?_); (generalize w66.drew = w67 at BK257 BK286 HB hHeld ⊢); refine pure_ (i := 0) (N := some 133) (v := ?_) (a' := ?_) #[true, false, false, false, false, false, false, false, false, false, false, false, false, false] rfl rfl (any_of HT_.out (by kernel_rfl)) (fun _ _ _ h => h) (Or.inl ⟨by rfl, ?_⟩) ?_ ?_; rotate_left
                  ·intro w'; (go_simp); with_reducible rfl
                  rotate_left
                  ·simp only [Act.put, List.setIfInBounds_toArray, List.set_cons_zero, List.set_cons_succ, i64_w, i32_w]; rfl
                  refine pure_ (i := 1) (N := some 134) (v := ?_) (a' := ?_) #[true, true, false, false, false, false, false, false, false, false, false, false, false, false] rfl rfl (any_of HT_.out (by kernel_rfl)) (fun _ _ _ h => h) (Or.inl ⟨by rfl, ?_⟩) ?_ ?_; rotate_left
                  ·intro w'; (go_simp); with_reducible rfl
                  rotate_left
                  ·simp only [Act.put, List.setIfInBounds_toArray, List.set_cons_zero, List.set_cons_succ, i64_w, i32_w]; rfl
                  refine pure_ (i := 3) (N := some 136) (v := ?_) (a' := ?_) #[true, true, false, true, false, false, false, false, false, false, false, false, false, false] rfl rfl (any_of HT_.out (by kernel_rfl)) (fun _ _ _ h => h) (Or.inl ⟨by rfl, ?_⟩) ?_ ?_; rotate_left
                  ·intro w'; (go_simp); with_reducible rfl
                  rotate_left
                  ·simp only [Act.put, List.setIfInBounds_toArray, List.set_cons_zero, List.set_cons_succ, i64_w, i32_w]; rfl
                  refine pure_ (i := 7) (N := some 140) (v := ?_) (a' := ?_) #[true, true, false, true, false, false, false, true, false, false, false, false, false, false] rfl rfl (any_of HT_.out (by kernel_rfl)) (fun _ _ _ h => h) (Or.inl ⟨by rfl, ?_⟩) ?_ ?_; rotate_left
                  ·intro w'; (go_simp); with_reducible rfl
                  rotate_left
                  ·simp only [Act.put, List.setIfInBounds_toArray, List.set_cons_zero, List.set_cons_succ, i64_w, i32_w]; rfl
                  refine pure_ (i := 8) (N := some 141) (v := ?_) (a' := ?_) #[true, true, false, true, false, false, false, true, true, false, false, false, false, false] rfl rfl (any_of HT_.out (by kernel_rfl)) (fun _ _ _ h => h) (Or.inl ⟨by rfl, ?_⟩) ?_ ?_; rotate_left
                  ·intro w'; (go_simp); with_reducible rfl
                  rotate_left
                  ·simp only [Act.put, List.setIfInBounds_toArray, List.set_cons_zero, List.set_cons_succ, i64_w, i32_w]; rfl
                  refine take_ (i := 2) (N := some 135) (v := ?_) (a' := ?_) #[true, true, true, true, false, false, false, true, true, false, false, false, false, false] rfl rfl (take_ofW HT_.out HW_.out (by kernel_rfl)) (fun _ _ _ h => h) (Or.inl ⟨by rfl, ?_⟩) hHeld ?_ ?_; rotate_left
                  ·rintro w' ⟨s0, s1⟩; (go_simp); with_reducible rfl
                  rotate_left
                  ·simp only [Act.put, List.setIfInBounds_toArray, List.set_cons_zero, List.set_cons_succ, i64_w, i32_w]; rfl
                  refine pure_ (i := 4) (N := some 137) (v := ?_) (a' := ?_) #[true, true, true, true, true, false, false, true, true, false, false, false, false, false] rfl rfl (any_of HT_.out (by kernel_rfl)) (fun _ _ _ h => h) (Or.inl ⟨by rfl, ?_⟩) ?_ ?_; rotate_left
                  ·intro w'; (go_simp); with_reducible rfl
                  rotate_left
                  ·simp only [Act.put, List.setIfInBounds_toArray, List.set_cons_zero, List.set_cons_succ, i64_w, i32_w]; rfl
                  refine pure_ (i := 5) (N := some 138) (v := ?_) (a' := ?_) #[true, true, true, true, true, true, false, true, true, false, false, false, false, false] rfl rfl (any_of HT_.out (by kernel_rfl)) (fun _ _ _ h => h) (Or.inl ⟨by rfl, ?_⟩) ?_ ?_; rotate_left
                  ·intro w'; (go_simp); with_reducible rfl
                  rotate_left
                  ·simp only [Act.put, List.setIfInBounds_toArray, List.set_cons_zero, List.set_cons_succ, i64_w, i32_w]; rfl
                  refine take_ (i := 6) (N := some 139) (v := ?_) (a' := ?_) #[true, true, true, true, true, true, true, true, true, false, false, false, false, false] rfl rfl (take_ofW HT_.out HW_.out (by kernel_rfl)) (fun _ _ _ h => h) (Or.inl ⟨by rfl, ?_⟩) hHeld ?_ ?_; rotate_left
                  ·rintro w' ⟨s0, s1⟩; (go_simp); with_reducible rfl
                  rotate_left
                  ·simp only [Act.put, List.setIfInBounds_toArray, List.set_cons_zero, List.set_cons_succ, i64_w, i32_w]; rfl
                  refine one_ (i := 9) (N := some 142) #[true, true, true, true, true, true, true, true, true, true, false, false, false, false] rfl rfl (one_of HT_.out (by kernel_rfl)) (by decide) (fun K hK => ?_); refine gz Tryd.func62 #[.bool (!(t284 == 0) || (!(t285 == 0))), .agg #[.int .u64 t284, .int .u64 t285], .agg #[.int .u64 0, .int .u64 x17_4]] ?_; (with_reducible refine (r1_Reduce.calls k4 (!(t284 == 0) || (!(t285 == 0))) t284 t285 0 x17_4 t287 t288 t289 _ A60.out).mono ?_); rintro e w68 ⟨rfl, hb⟩; refine ⟨_, rfl, ?_⟩; have n0_ := kb BK257 hb; have n1_ := kb BK286 hb; have n2_ := wb HB hb; clear BK257; clear BK286; clear HB; have BK257 := n0_; have BK286 := n1_; have HB := n2_; clear n0_ n1_ n2_; (try clear hb); (try clear hb2); (try clear hk); (try clear hi); refine hK.out _ _ ⟨bc BK286 0, bc BK286 1⟩ (fun hHeld => ?_); clear hK K; refine norm_ (a' := ?_) ?_ ?_; rotate_left
                  ·show Act.put _ (some 142) _ = _; simp only [Act.put, List.setIfInBounds_toArray, List.set_cons_zero, List.set_cons_succ, i64_w, i32_w]; rfl
                  refine pure_ (i := 10) (N := some 143) (v := ?_) (a' := ?_) #[true, true, true, true, true, true, true, true, true, true, true, false, false, false] rfl rfl (any_of HT_.out (by kernel_rfl)) (fun _ _ _ h => h) (Or.inl ⟨by rfl, ?_⟩) ?_ ?_; rotate_left
                  ·intro w'; (go_simp); with_reducible rfl
                  rotate_left
                  ·simp only [Act.put, List.setIfInBounds_toArray, List.set_cons_zero, List.set_cons_succ, i64_w, i32_w]; rfl
                  refine pure_ (i := 11) (N := some 144) (v := ?_) (a' := ?_) #[true, true, true, true, true, true, true, true, true, true, true, true, false, false] rfl rfl (any_of HT_.out (by kernel_rfl)) (fun _ _ _ h => h) (Or.inl ⟨by rfl, ?_⟩) ?_ ?_; rotate_left
                  ·intro w'; (go_simp); with_reducible rfl
                  rotate_left
                  ·simp only [Act.put, List.setIfInBounds_toArray, List.set_cons_zero, List.set_cons_succ, i64_w, i32_w]; rfl
                  refine one_ (i := 12) (N := none) #[true, true, true, true, true, true, true, true, true, true, true, true, true, false] rfl rfl (one_of HT_.out (by kernel_rfl)) (by decide) (fun K hK => ?_); have hs69 : w68.cell? ⟨gb257, 0, none⟩ = some (.int .i64 0) := bc BK257 0; have hfs69 := blk_frozen BK257.out 0; have hns69_1 := NB286_257.out; have hms69_1 := NB257_286.out; have hs70 : w68.cell? ⟨gb257, 1, none⟩ = some (.int .i64 0) := bc BK257 1; have hfs70 := blk_frozen BK257.out 1; have hns70_1 := NB286_257.out; have hms70_1 := NB257_286.out; refine skip_ (w1 := ?_) (by rfl) rfl ?_ ?_; rotate_left
                  ·(go_simp); rfl
                  refine hK.out _ _ ⟨((cell_far (p := ⟨gb257, _, none⟩) NB286_257.out _).trans (((cell_far (p := ⟨gb257, _, none⟩) NB286_257.out _).trans (hHeld.1)))), ((cell_far (p := ⟨gb257, _, none⟩) NB286_257.out _).trans (((cell_far (p := ⟨gb257, _, none⟩) NB286_257.out _).trans (hHeld.2))))⟩ (fun hHeld => ?_); clear hK K; refine pure_ (i := 13) (N := some 3) (v := ?_) (a' := ?_) #[true, true, true, true, true, true, true, true, true, true, true, true, true, true] rfl rfl (any_of HT_.out (by kernel_rfl)) (fun _ _ _ h => h) (Or.inl ⟨by rfl, ?_⟩) ?_ ?_; rotate_left
                  ·intro w'; (go_simp); with_reducible rfl
                  rotate_left
                  ·simp only [Act.put, List.setIfInBounds_toArray, List.set_cons_zero, List.set_cons_succ, i64_w, i32_w]; rfl
                  refine done_ (done_of HT_.out (by kernel_rfl)) ?_; (try go_wp2); refine bodyPost_ret (results_ct rfl _ _ gb257 24 #[.int .i64 t287, .int .i64 t288] (0, 0) _ rfl (by refine pe ?_; refine blk_put (cs := #[.int .i64 t287, .int .i64 0]) ?_ 1 _ rfl; refine pe ?_; refine blk_put (cs := #[.int .i64 0, .int .i64 0]) ?_ 0 _ rfl; refine pe ?_; exact BK257.out) Tryd.underlying24 rfl (by kernel_rfl)) rfl ?_; exact ⟨by first | rfl | (simp [errW_none, errW_some] <;> rfl) | (simp only [← hji48]; first | rfl | (simp [errW_none, errW_some] <;> rfl)) | (simp [*, errW_none, errW_some] <;> rfl), bw HB⟩
                 ·replace c59 := Bool.eq_false_iff.mpr c59; subst c59; (have H1 : ((r1_Reduce.f k4 false t284 t285 0 x17_4).bind fun bt290 => (some (bt290.1, bt290.2.1, bt290.2.2))) = some (r1, r2, r3) := by rw [if_neg (show ¬ (false = true) by decide)] at H; exact H); clear H; have H := H1; clear H1; replace H := Option.bind_eq_some_iff.mp H; obtain ⟨⟨t290, t291, t292⟩, A710, H⟩ := H; (try dsimp only at H); have A71 := Aside0.mk A710; clear A710; simp only [Option.some.injEq, Prod.mk.injEq] at H; obtain ⟨rfl, rfl, rfl⟩ := H; (try go_wp2_with (first | ((with_reducible refine gate_callee (f := 50) rfl ?_); refine gl (some 129) Tryd.func50 #[.int .u64 t278, .int .u64 x17_4] ?_; (with_reducible refine (r1_Product.calls t278 x17_4 t282 t283 _ A57.out).mono ?_); rintro e w72 ⟨rfl, hb⟩; refine ⟨_, rfl, ?_⟩; replace BK257 := kb BK257 hb; replace HB := wb HB hb; (try clear hb); (try clear hb2); (try clear hk); (try clear hi)) | ((with_reducible refine gate_callee (f := 53) rfl ?_); refine gl (some 132) Tryd.func53 #[.agg #[.int .u64 t282, .int .u64 t283], .agg #[.int .u64 0, .int .u64 t280]] ?_; (with_reducible refine (r1_Plus.calls t282 t283 0 t280 t284 t285 _ A58.out).mono ?_); rintro e w73 ⟨rfl, hb⟩; refine ⟨_, rfl, ?_⟩; replace BK257 := kb BK257 hb; replace HB := wb HB hb; (try clear hb); (try clear hb2); (try clear hk); (try clear hi)) | ((with_reducible refine gate_dst (N := 19) rfl ?_); refine bx (N := 19) (cs := #[.int .u64 0, .int .u64 0]) (t := 65) ?_; intro gb286 hg w74 hbox hb; have BK286 := Aside0.mk (hbox); have GW286 := gs HB hg; have GE286 := gs HB hg; have NB257_286 := nl BK257 hg; have NB286_257 := nr BK257 hg; replace BK257 := kb BK257 hb; replace HB := wb HB hb; clear hb hbox hg; obtain ⟨hnb75, hnc75⟩ := n2 NB286_257; have hcz76_0 : w74.cell? ⟨gb286, 0, none⟩ = some (.int .u64 0) := bc BK286 0; have hcz76_1 : w74.cell? ⟨gb286, 1, none⟩ = some (.int .u64 0) := bc BK286 1; have hfz76_0 := blk_frozen BK286.out 0; have hfz76_1 := blk_frozen BK286.out 1))); have n0_ : Aside0 (((w74.setCell ⟨gb286, 0, none⟩ (.int .u64 t284)).setCell ⟨gb286, 1, none⟩ (.int .u64 t285)).heap[gb257]? = some (.cells #[.int .i64 0, .int .i64 0] 24 (0, 0))) := ⟨bq BK257⟩; have n1_ : Aside0 (((w74.setCell ⟨gb286, 0, none⟩ (.int .u64 t284)).setCell ⟨gb286, 1, none⟩ (.int .u64 t285)).heap[gb286]? = some (.cells #[.int .u64 t284, .int .u64 t285] 65 (0, 0))) := ⟨by refine pe ?_; refine blk_put (cs := #[.int .u64 t284, .int .u64 0]) ?_ 1 _ rfl; refine pe ?_; refine blk_put (cs := #[.int .u64 0, .int .u64 0]) ?_ 0 _ rfl; refine pe ?_; exact BK286.out⟩; have n2_ : Aside0 (Below w.heap.size w ((w74.setCell ⟨gb286, 0, none⟩ (.int .u64 t284)).setCell ⟨gb286, 1, none⟩ (.int .u64 t285))) := ⟨bw HB⟩; (try clear BK257); (try clear BK286); (try clear HB); (generalize ((w74.setCell ⟨gb286, 0, none⟩ (.int .u64 t284)).setCell ⟨gb286, 1, none⟩ (.int .u64 t285)) = w77 at n0_ n1_ n2_ ⊢); have BK257 := n0_; have BK286 := n1_; have HB := n2_; clear n0_ n1_ n2_; have n0_ := Aside0.mk (blk_drew BK257.out); have n1_ := Aside0.mk (blk_drew BK286.out); have n2_ := Aside0.mk (below_drew1 HB.out); clear BK257; clear BK286; clear HB; have BK257 := n0_; have BK286 := n1_; have HB := n2_; clear n0_ n1_ n2_; refine start_ (n := 14) (S := fun w' => w'.cell? ⟨gb286, 0, none⟩ = some (.int .u64 t284) ∧ w'.cell? ⟨gb286, 1, none⟩ = some (.int .u64 t285)) (ds := []) #[false, false, false, false, false, false, false, false, false, false, false, false, false, false] (by kernel_rfl) rfl rfl ⟨bc BK286 0, bc BK286 1⟩ (fun hHeld => ?_); refine with_tabW r1_Parse.tab28 r1_Parse.bits28 (fun HT_ HW_ => ?_); (generalize w77.drew = w78 at BK257 BK286 HB hHeld ⊢); refine pure_ (i := 0) (N := some 133) (v := ?_) (a' := ?_) #[true, false, false, false, false, false, false, false, false, false, false, false, false, false] rfl rfl (any_of HT_.out (by kernel_rfl)) (fun _ _ _ h => h) (Or.inl ⟨by rfl, ?_⟩) ?_ ?_; rotate_left
                  ·intro w'; (go_simp); with_reducible rfl
                  rotate_left
                  ·simp only [Act.put, List.setIfInBounds_toArray, List.set_cons_zero, List.set_cons_succ, i64_w, i32_w]; rfl
                  refine pure_ (i := 1) (N := some 134) (v := ?_) (a' := ?_) #[true, true, false, false, false, false, false, false, false, false, false, false, false, false] rfl rfl (any_of HT_.out (by kernel_rfl)) (fun _ _ _ h => h) (Or.inl ⟨by rfl, ?_⟩) ?_ ?_; rotate_left
                  ·intro w'; (go_simp); with_reducible rfl
                  rotate_left
                  ·simp only [Act.put, List.setIfInBounds_toArray, List.set_cons_zero, List.set_cons_succ, i64_w, i32_w]; rfl
                  refine pure_ (i := 2) (N := some 135) (v := undef) (a' := ?_) #[true, true, true, false, false, false, false, false, false, false, false, false, false, false] rfl rfl (any_of HT_.out (by kernel_rfl)) (fun _ _ _ h => h) (Or.inr ⟨by rfl, rfl⟩) ?_ ?_; rotate_left
                  ·simp only [Act.put, List.setIfInBounds_toArray, List.set_cons_zero, List.set_cons_succ, i64_w, i32_w]; rfl
                  refine pure_ (i := 3) (N := some 136) (v := undef) (a' := ?_) #[true, true, true, true, false, false, false, false, false, false, false, false, false, false] rfl rfl (any_of HT_.out (by kernel_rfl)) (fun _ _ _ h => h) (Or.inr ⟨by rfl, rfl⟩) ?_ ?_; rotate_left
                  ·simp only [Act.put, List.setIfInBounds_toArray, List.set_cons_zero, List.set_cons_succ, i64_w, i32_w]; rfl
                  refine pure_ (i := 4) (N := some 137) (v := undef) (a' := ?_) #[true, true, true, true, true, false, false, false, false, false, false, false, false, false] rfl rfl (any_of HT_.out (by kernel_rfl)) (fun _ _ _ h => h) (Or.inr ⟨by rfl, rfl⟩) ?_ ?_; rotate_left
                  ·simp only [Act.put, List.setIfInBounds_toArray, List.set_cons_zero, List.set_cons_succ, i64_w, i32_w]; rfl
                  refine pure_ (i := 5) (N := some 138) (v := ?_) (a' := ?_) #[true, true, true, true, true, true, false, false, false, false, false, false, false, false] rfl rfl (any_of HT_.out (by kernel_rfl)) (fun _ _ _ h => h) (Or.inl ⟨by rfl, ?_⟩) ?_ ?_; rotate_left
                  ·intro w'; (go_simp); with_reducible rfl
                  rotate_left
                  ·simp only [Act.put, List.setIfInBounds_toArray, List.set_cons_zero, List.set_cons_succ, i64_w, i32_w]; rfl
                  refine pure_ (i := 7) (N := some 140) (v := ?_) (a' := ?_) #[true, true, true, true, true, true, false, true, false, false, false, false, false, false] rfl rfl (any_of HT_.out (by kernel_rfl)) (fun _ _ _ h => h) (Or.inl ⟨by rfl, ?_⟩) ?_ ?_; rotate_left
                  ·intro w'; (go_simp); with_reducible rfl
                  rotate_left
                  ·simp only [Act.put, List.setIfInBounds_toArray, List.set_cons_zero, List.set_cons_succ, i64_w, i32_w]; rfl
                  refine pure_ (i := 8) (N := some 141) (v := ?_) (a' := ?_) #[true, true, true, true, true, true, false, true, true, false, false, false, false, false] rfl rfl (any_of HT_.out (by kernel_rfl)) (fun _ _ _ h => h) (Or.inl ⟨by rfl, ?_⟩) ?_ ?_; rotate_left
                  ·intro w'; (go_simp); with_reducible rfl
                  rotate_left
                  ·simp only [Act.put, List.setIfInBounds_toArray, List.set_cons_zero, List.set_cons_succ, i64_w, i32_w]; rfl
                  refine take_ (i := 6) (N := some 139) (v := ?_) (a' := ?_) #[true, true, true, true, true, true, true, true, true, false, false, false, false, false] rfl rfl (take_ofW HT_.out HW_.out (by kernel_rfl)) (fun _ _ _ h => h) (Or.inl ⟨by rfl, ?_⟩) hHeld ?_ ?_; rotate_left
                  ·rintro w' ⟨s0, s1⟩; (go_simp); with_reducible rfl
                  rotate_left
                  ·simp only [Act.put, List.setIfInBounds_toArray, List.set_cons_zero, List.set_cons_succ, i64_w, i32_w]; rfl
                  refine one_ (i := 9) (N := some 142) #[true, true, true, true, true, true, true, true, true, true, false, false, false, false] rfl rfl (one_of HT_.out (by kernel_rfl)) (by decide) (fun K hK => ?_); refine gz Tryd.func62 #[.bool false, .agg #[.int .u64 t284, .int .u64 t285], .agg #[.int .u64 0, .int .u64 x17_4]] ?_; (with_reducible refine (r1_Reduce.calls k4 false t284 t285 0 x17_4 t290 t291 t292 _ A71.out).mono ?_); rintro e w79 ⟨rfl, hb⟩; refine ⟨_, rfl, ?_⟩; have n0_ := kb BK257 hb; have n1_ := kb BK286 hb; have n2_ := wb HB hb; clear BK257; clear BK286; clear HB; have BK257 := n0_; have BK286 := n1_; have HB := n2_; clear n0_ n1_ n2_; (try clear hb); (try clear hb2); (try clear hk); (try clear hi); refine hK.out _ _ ⟨bc BK286 0, bc BK286 1⟩ (fun hHeld => ?_); clear hK K; refine norm_ (a' := ?_) ?_ ?_; rotate_left
                  ·show Act.put _ (some 142) _ = _; simp only [Act.put, List.setIfInBounds_toArray, List.set_cons_zero, List.set_cons_succ, i64_w, i32_w]; rfl
                  refine pure_ (i := 10) (N := some 143) (v := ?_) (a' := ?_) #[true, true, true, true, true, true, true, true, true, true, true, false, false, false] rfl rfl (any_of HT_.out (by kernel_rfl)) (fun _ _ _ h => h) (Or.inl ⟨by rfl, ?_⟩) ?_ ?_; rotate_left
                  ·intro w'; (go_simp); with_reducible rfl
                  rotate_left
                  ·simp only [Act.put, List.setIfInBounds_toArray, List.set_cons_zero, List.set_cons_succ, i64_w, i32_w]; rfl
                  refine pure_ (i := 11) (N := some 144) (v := ?_) (a' := ?_) #[true, true, true, true, true, true, true, true, true, true, true, true, false, false] rfl rfl (any_of HT_.out (by kernel_rfl)) (fun _ _ _ h => h) (Or.inl ⟨by rfl, ?_⟩) ?_ ?_; rotate_left
                  ·intro w'; (go_simp); with_reducible rfl
                  rotate_left
                  ·simp only [Act.put, List.setIfInBounds_toArray, List.set_cons_zero, List.set_cons_succ, i64_w, i32_w]; rfl
                  refine one_ (i := 12) (N := none) #[true, true, true, true, true, true, true, true, true, true, true, true, true, false] rfl rfl (one_of HT_.out (by kernel_rfl)) (by decide) (fun K hK => ?_); have hs80 : w79.cell? ⟨gb257, 0, none⟩ = some (.int .i64 0) := bc BK257 0; have hfs80 := blk_frozen BK257.out 0; have hns80_1 := NB286_257.out; have hms80_1 := NB257_286.out; have hs81 : w79.cell? ⟨gb257, 1, none⟩ = some (.int .i64 0) := bc BK257 1; have hfs81 := blk_frozen BK257.out 1; have hns81_1 := NB286_257.out; have hms81_1 := NB257_286.out; refine skip_ (w1 := ?_) (by rfl) rfl ?_ ?_; rotate_left
                  ·(go_simp); rfl
                  refine hK.out _ _ ⟨((cell_far (p := ⟨gb257, _, none⟩) NB286_257.out _).trans (((cell_far (p := ⟨gb257, _, none⟩) NB286_257.out _).trans (hHeld.1)))), ((cell_far (p := ⟨gb257, _, none⟩) NB286_257.out _).trans (((cell_far (p := ⟨gb257, _, none⟩) NB286_257.out _).trans (hHeld.2))))⟩ (fun hHeld => ?_); clear hK K; refine pure_ (i := 13) (N := some 3) (v := ?_) (a' := ?_) #[true, true, true, true, true, true, true, true, true, true, true, true, true, true] rfl rfl (any_of HT_.out (by kernel_rfl)) (fun _ _ _ h => h) (Or.inl ⟨by rfl, ?_⟩) ?_ ?_; rotate_left
                  ·intro w'; (go_simp); with_reducible rfl
                  rotate_left
                  ·simp only [Act.put, List.setIfInBounds_toArray, List.set_cons_zero, List.set_cons_succ, i64_w, i32_w]; rfl
                  refine done_ (done_of HT_.out (by kernel_rfl)) ?_; (try go_wp2); refine bodyPost_ret (results_ct rfl _ _ gb257 24 #[.int .i64 t290, .int .i64 t291] (0, 0) _ rfl (by refine pe ?_; refine blk_put (cs := #[.int .i64 t290, .int .i64 0]) ?_ 1 _ rfl; refine pe ?_; refine blk_put (cs := #[.int .i64 0, .int .i64 0]) ?_ 0 _ rfl; refine pe ?_; exact BK257.out) Tryd.underlying24 rfl (by kernel_rfl)) rfl ?_; exact ⟨by first | rfl | (simp [errW_none, errW_some] <;> rfl) | (simp only [← hji48]; first | rfl | (simp [errW_none, errW_some] <;> rfl)) | (simp [*, errW_none, errW_some] <;> rfl), bw HB⟩
          ·rw [if_neg c50] at H; exact absurd H (by simp)
         ·rw [if_neg c49] at H; exact absurd H (by simp)
        ·rw [if_neg c46] at H; exact absurd H (by simp)
       ·rw [if_neg c45] at H; exact absurd H (by simp)

end Go.Proofs.YtbapkiclgkddcaaDoor.G

-- Printed by gp.py (a program of this session's own, over the kit's printer) out of the translation; Lean checks it.
namespace Go.Proofs.YtbapkiclgkddcaaDoor.G
open Go.Proofs.YtbapkiclgkddcaaDoor.Given Go.Proofs.YtbapkiclgkddcaaDoor.Short
open Go.RowKit Go.Proofs.YtbapkiclgkddcaaDoorW.PrintWords Go.Proofs.YtbapkiclgkddcaaDoorW.PrintLast Go.Proofs.YtbapkiclgkddcaaDoorW.PrintMore
attribute [local go_sem] max2_int min2_int max_two min_two max_three min_three max_four min_four   -- for this text's walks alone
set_option linter.unusedVariables false
set_option linter.unusedSimpArgs false

/-! ### mk_Cut: function 23 -/
def mk_Cut.f (a0 : Int) (a1 : Int) : Option (Int) := if a1 < 1 then (some 0) else (if a1 = 0 then (none) else (if (Int.tmod a0 a1) < 0 then (some (wrap64 ((Int.tmod a0 a1) + a1))) else (some (Int.tmod a0 a1))))
set_option maxHeartbeats 8000000 in
set_option maxRecDepth 100000 in
theorem mk_Cut.calls (a0 : Int) (a1 : Int) (r : Int) (w : World) (h : mk_Cut.f a0 a1 = some r) :
  Calls Tryd.prog 23 #[.int .i64 a0, .int .i64 a1] w fun e w' => e = .returned (.int .i64 r) ∧ Drawn0 w w' := by
 have H : (if a1 < 1 then (some 0) else (if a1 = 0 then (none) else (if (Int.tmod a0 a1) < 0 then (some (wrap64 ((Int.tmod a0 a1) + a1))) else (some (Int.tmod a0 a1))))) = some r := h; clear h
 by_cases c3 : a1 < 1
 ·rw [if_pos c3] at H; have c3b0 : decide (a1 < 1) = true := decide_eq_true c3; clear c3; obtain rfl := Option.some.inj H; (go_enter Tryd.func23, Tryd.ntmps23); (go_wp2); (go_ret); exact ⟨by first | rfl | (simp; done) | (simp [*]; done), by repeat (first | exact Drawn0.refl _ | apply Drawn0.step)⟩
 ·rw [if_neg c3] at H; have c3b0 : decide (a1 < 1) = false := decide_eq_false c3; clear c3
  by_cases c4 : a1 = 0
  ·rw [if_pos c4] at H; exact absurd H (by simp)
  ·rw [if_neg c4] at H; have c4b0 : (a1 == 0) = false := beq_eq_false_iff_ne.mpr c4; have c4b1 : (a1 != 0) = true := bne_iff_ne.mpr c4
   by_cases c5 : (Int.tmod a0 a1) < 0
   ·rw [if_pos c5] at H; have c5b0 : decide ((Int.tmod a0 a1) < 0) = true := decide_eq_true c5; clear c5; obtain rfl := Option.some.inj H; (go_enter Tryd.func23, Tryd.ntmps23); (go_wp2); (go_ret); exact ⟨by first | rfl | (simp; done) | (simp [*]; done), by repeat (first | exact Drawn0.refl _ | apply Drawn0.step)⟩
   ·rw [if_neg c5] at H; have c5b0 : decide ((Int.tmod a0 a1) < 0) = false := decide_eq_false c5; clear c5; obtain rfl := Option.some.inj H; (go_enter Tryd.func23, Tryd.ntmps23); (go_wp2); (go_ret); exact ⟨by first | rfl | (simp; done) | (simp [*]; done), by repeat (first | exact Drawn0.refl _ | apply Drawn0.step)⟩

end Go.Proofs.YtbapkiclgkddcaaDoor.G

-- Printed by gp.py (a program of this session's own, over the kit's printer) out of the translation; Lean checks it.
namespace Go.Proofs.YtbapkiclgkddcaaDoor.G
open Go.Proofs.YtbapkiclgkddcaaDoor.Given Go.Proofs.YtbapkiclgkddcaaDoor.Short
open Go.RowKit Go.Proofs.YtbapkiclgkddcaaDoorW.PrintWords Go.Proofs.YtbapkiclgkddcaaDoorW.PrintLast Go.Proofs.YtbapkiclgkddcaaDoorW.PrintMore
attribute [local go_sem] max2_int min2_int max_two min_two max_three min_three max_four min_four   -- for this text's walks alone
set_option linter.unusedVariables false
set_option linter.unusedSimpArgs false

/-- A state of type 47 at block g of W; what its slices lead to came in by w0. -/
def IsS47 (w0 W : World) (g : Nat) (f0 : List Int) (f1 : Int) : Prop := ∃ A0 c0, W.heap[g]? = some (.cells #[.slice A0 f0.length c0, .int .i64 f1] 47 (0, 0)) ∧ w0.heap.size ≤ g ∧ Kd.C (Kd.int .i64) w0 A0 f0.length f0
theorem IsS47.grown {w0 W : World} {g : Nat} {f0 : List Int} {f1 : Int} {W1 : World} {row : Option Nat} (h : IsS47 w0 W g f0 f1) (hw : W.grownBy W1 row) (hne : some g ≠ row) : IsS47 w0 W1 g f0 f1 := by
 obtain ⟨A0, c0, hb, hg, hr0⟩ := h; exact ⟨A0, c0, blk_grown hb hw hne, hg, hr0⟩
theorem IsS47.own_neN {w0 W : World} {g : Nat} {f0 : List Int} {f1 : Int} {α : Type} {d : Kd α} {e : Nat} {base : Nat} {ok : Nat → Prop} {v : Value} {xs : List α} (h : IsS47 w0 W g f0 f1) (ho : Kd.N d e W base ok v xs) (ht : e ≠ 47) : some g ≠ v.ownBlock := by
 obtain ⟨A0, c0, hb, hg, hr0⟩ := h; exact Kd.N_ne ho hb ht
theorem IsS47.fresh {w0 W : World} {g : Nat} {f0 : List Int} {f1 : Int} (h : IsS47 w0 W g f0 f1) : ∀ k, W.heap.size ≤ k → k ≠ g := by
 obtain ⟨A0, c0, hb, hg, hr0⟩ := h; exact Kd.freshB hb
theorem IsS47.kept {w0 W : World} {g : Nat} {f0 : List Int} {f1 : Int} {W1 : World} {S : Nat → Prop} (h : IsS47 w0 W g f0 f1) (hk : Kept W W1 S) (hne : ¬ S g) : IsS47 w0 W1 g f0 f1 := by
 obtain ⟨A0, c0, hb, hg, hr0⟩ := h; exact ⟨A0, c0, blk_kept hb hk hne, hg, hr0⟩
theorem IsS47.below {w0 W : World} {g : Nat} {f0 : List Int} {f1 : Int} {W1 : World} (h : IsS47 w0 W g f0 f1) (hw : Below W.heap.size W W1) : IsS47 w0 W1 g f0 f1 := h.grown (grown_of_below hw none) (by simp)
theorem IsS47.alloc {w0 W : World} {g : Nat} {f0 : List Int} {f1 : Int} (h : IsS47 w0 W g f0 f1) (o : Obj) : IsS47 w0 (W.alloc o) g f0 f1 := h.below (below_alloc (Below.refl _ _) o)
theorem IsS47.drewN {w0 W : World} {g : Nat} {f0 : List Int} {f1 : Int} (h : IsS47 w0 W g f0 f1) (m : Nat) : IsS47 w0 (W.drewN m) g f0 f1 := h
theorem IsS47.drew {w0 W : World} {g : Nat} {f0 : List Int} {f1 : Int} (h : IsS47 w0 W g f0 f1) : IsS47 w0 W.drew g f0 f1 := h
theorem IsS47.at_ {w0 W : World} {g : Nat} {f0 : List Int} {f1 : Int} {w' : World} {m : Nat} (hq : W.drewN m = w') (h : IsS47 w0 W g f0 f1) : IsS47 w0 w' g f0 f1 := by subst hq; exact IsS47.drewN h m
theorem IsS47.apart {w0 W : World} {g : Nat} {f0 : List Int} {f1 : Int} {α : Type} {d : Kd α} {e : Nat} {base : Nat} {ok : Nat → Prop} {v : Value} {xs : List α} (h : IsS47 w0 W g f0 f1) (ho : d.R e W base ok v xs) (ht : ∀ q, q ∈ e :: d.E → q ≠ 47) : d.R e W base (fun k => ok k ∧ k ≠ g) v xs := by
 obtain ⟨A0, c0, hb, hg, hr0⟩ := h; exact Kd.R_types ho hb ht
theorem IsS47.own_ne {w0 W : World} {g : Nat} {f0 : List Int} {f1 : Int} {α : Type} {d : Kd α} {e : Nat} {base : Nat} {ok : Nat → Prop} {v : Value} {xs : List α} (h : IsS47 w0 W g f0 f1) (ho : d.R e W base ok v xs) (ht : e ≠ 47) : some g ≠ v.ownBlock := by
 obtain ⟨A0, c0, hb, hg, hr0⟩ := h; exact Kd.R_ne ho hb ht
theorem IsS47.apartQ {w0 W : World} {g : Nat} {f0 : List Int} {f1 : Int} {α : Type} {d : Kd α} {e : Nat} {base : Nat} {ok : Nat → Prop} {v : Value} {xs : List α} (h : IsS47 w0 W g f0 f1) (ho : d.Q e W base ok v xs) (ht : ∀ q, q ∈ e :: d.E → q ≠ 47) : d.Q e W base (fun k => ok k ∧ k ≠ g) v xs := by
 obtain ⟨A0, c0, hb, hg, hr0⟩ := h; exact Kd.Q_types ho hb ht
theorem IsS47.own_neQ {w0 W : World} {g : Nat} {f0 : List Int} {f1 : Int} {α : Type} {d : Kd α} {e : Nat} {base : Nat} {ok : Nat → Prop} {v : Value} {xs : List α} (h : IsS47 w0 W g f0 f1) (ho : d.Q e W base ok v xs) (ht : e ≠ 47) : some g ≠ v.ownBlock := by
 obtain ⟨A0, c0, hb, hg, hr0⟩ := h; exact Kd.Q_ne ho hb ht
theorem IsS47.apartS {w0 W : World} {g : Nat} {f0 : List Int} {f1 : Int} {α : Type} {d : Kd α} {e : Nat} {base : Nat} {ok : Nat → Prop} {v : Value} {xs : List α} (h : IsS47 w0 W g f0 f1) (ho : d.S e W base ok v xs) (ht : ∀ q, q ∈ e :: d.E → q ≠ 47) : d.S e W base (fun k => ok k ∧ k ≠ g) v xs := by
 obtain ⟨A0, c0, hb, hg, hr0⟩ := h; exact Kd.S_types ho hb ht
theorem IsS47.own_neS {w0 W : World} {g : Nat} {f0 : List Int} {f1 : Int} {α : Type} {d : Kd α} {e : Nat} {base : Nat} {ok : Nat → Prop} {v : Value} {xs : List α} (h : IsS47 w0 W g f0 f1) (ho : d.S e W base ok v xs) (ht : e ≠ 47) : some g ≠ v.ownBlock := by
 obtain ⟨A0, c0, hb, hg, hr0⟩ := h; exact Kd.S_ne ho hb ht
theorem IsS47.lt {w0 W : World} {g : Nat} {f0 : List Int} {f1 : Int} (h : IsS47 w0 W g f0 f1) : g < W.heap.size := by
 obtain ⟨A0, c0, hb, hg, hr0⟩ := h; exact blk_lt hb
theorem IsS47.ge {w0 W : World} {g : Nat} {f0 : List Int} {f1 : Int} (h : IsS47 w0 W g f0 f1) : w0.heap.size ≤ g := by
 obtain ⟨A0, c0, hb, hg, hr0⟩ := h; exact hg
theorem IsS47.ne_blk {w0 W : World} {g : Nat} {f0 : List Int} {f1 : Int} {a : Nat} {cs : Array Value} {t : TypeId} {fr : Nat × Nat} (h : IsS47 w0 W g f0 f1) (hb2 : W.heap[a]? = some (.cells cs t fr)) (ht : t ≠ 47) : g ≠ a := by
 obtain ⟨A0, c0, hb, hg, hr0⟩ := h; rintro rfl; rw [hb] at hb2; injection hb2 with hb2; injection hb2 with _ ht2; exact ht ht2.symm
theorem IsS47.far {w0 W : World} {g : Nat} {f0 : List Int} {f1 : Int} {p : Addr} (h : IsS47 w0 W g f0 f1) (hne : g ≠ p.block) (u : Value) : IsS47 w0 (W.setCell p u) g f0 f1 := by
 obtain ⟨A0, c0, hb, hg, hr0⟩ := h; exact ⟨A0, c0, blk_far hb hne u, hg, hr0⟩
theorem cellS47_0 {W : World} {g : Nat} {A0 : Option Addr} {c0 : Nat} {f0 : List Int} {f1 : Int} (h : W.heap[g]? = some (.cells #[.slice A0 f0.length c0, .int .i64 f1] 47 (0, 0))) : W.cell? ⟨g, 0, none⟩ = some (.slice A0 f0.length c0) := (blk_cell h 0).trans rfl
theorem cellS47_1 {W : World} {g : Nat} {A0 : Option Addr} {c0 : Nat} {f0 : List Int} {f1 : Int} (h : W.heap[g]? = some (.cells #[.slice A0 f0.length c0, .int .i64 f1] 47 (0, 0))) : W.cell? ⟨g, 1, none⟩ = some (.int .i64 f1) := (blk_cell h 1).trans rfl
theorem IsS47.set_1 {w0 W : World} {g : Nat} {f0 : List Int} {f1 : Int} (h : IsS47 w0 W g f0 f1) (x : Int) : IsS47 w0 (W.setCell ⟨g, 1, none⟩ (.int .i64 x)) g f0 x := by
 obtain ⟨A0, c0, hb, hg, hr0⟩ := h; exact ⟨A0, c0, by simpa using blk_set hb 1 (.int .i64 x), hg, hr0⟩
theorem IsS47.new (w0 W : World) (A0 : Option Addr) (c0 : Nat) (f0 : List Int) (f1 : Int) (hB : Below w0.heap.size w0 W) (hr0 : Kd.C (Kd.int .i64) w0 A0 f0.length f0) : IsS47 w0 (W.alloc (.cells #[.slice A0 f0.length c0, .int .i64 f1] 47)) W.heap.size f0 f1 := ⟨A0, c0, by simpa using heap_alloc_new W _, hB.size, hr0⟩

/-! ### mk_New: function 8 -/
def mk_New.f (l0 : List Int) : Option (List Int × Int) := if (l0.length : Int) > 600 then (if 600 ≤ (l0.length : Int) then (some (l0.take 600, 0)) else (none)) else (some (l0, 0))
set_option maxHeartbeats 8000000 in
set_option maxRecDepth 100000 in
theorem mk_New.calls (A0 : Option Addr) (c0 : Nat) (l0 : List Int) (r1 : List Int) (r2 : Int) (w0 w : World) (hB : Below w0.heap.size w0 w) (hr0 : Kd.C (Kd.int .i64) w0 A0 l0.length l0) (hc0 : l0.length ≤ c0) (h : mk_New.f l0 = some (r1, r2)) :
  Calls Tryd.prog 8 #[.slice A0 l0.length c0] w fun e w' => ∃ g_ : Nat, e = .returned (.pointer (some ⟨g_, 0, none⟩)) ∧ IsS47 w0 w' g_ r1 r2 ∧ Below w0.heap.size w0 w' ∧ Below w.heap.size w w' := by
 have hu47 := Tryd.underlying47; have HR0 := Aside0.mk hr0; have HC0 := Aside0.mk hc0; clear hr0 hc0; have HBW := Aside0.mk (Below.refl w.heap.size w); have HW0 := Aside0.mk hB.size; have HB := Aside0.mk hB; clear hB; have H : (if (l0.length : Int) > 600 then (if 600 ≤ (l0.length : Int) then (some (l0.take 600, 0)) else (none)) else (some (l0, 0))) = some (r1, r2) := h; clear h
 by_cases c2 : (l0.length : Int) > 600
 ·rw [if_pos c2] at H; have c2b0 : decide (600 < (l0.length : Int)) = true := decide_eq_true c2; have c2b1 : decide (600 < l0.length) = true := decide_eq_true (by omega); clear c2
  by_cases c3 : 600 ≤ (l0.length : Int)
  ·rw [if_pos c3] at H; have c3b0 := eq_true c3; have c3b1 : decide (600 ≤ (l0.length : Int)) = true := decide_eq_true c3; clear c3; simp only [Option.some.injEq, Prod.mk.injEq] at H; obtain ⟨rfl, rfl⟩ := H; obtain ⟨i04, hi04, _, hsz4, _⟩ := info_parts info3; obtain ⟨hcut4, hA4, hC4⟩ := print_take_of (P := Tryd.prog) (Value.int .i64) 0 22 3 .i64 Tryd.underlying22 hi04 hsz4 A0 c0 l0 600 (by omega) (of_decide_eq_true (by first | (with_reducible assumption) | assumption)) HC0.out; have HR302 := Aside0.mk (Kd.C_of_reads (h1 := fun _ => rfl) (hA4 _ (Kd.reads_of_C HR0.out))); have HC302 := Aside0.mk hC4; clear hA4 hC4 hi04 hsz4; (go_enter Tryd.func8, Tryd.ntmps8); (go_wp2_with (first | ((with_reducible refine gate_dst (N := 10) rfl ?_); refine bx (N := 10) (cs := #[.slice A0 (l0.take 600).length c0, .int .i64 0]) (t := 47) ?_; intro gb303 hg w5 hbox hb; have BK303 := Aside0.mk (hbox); have GW303 := gs HBW hg; have GE303 := Aside0.mk ((Nat.le_trans HW0.out (by rw [hg]; exact (below_size (bw HBW)) : w.heap.size ≤ gb303) : w0.heap.size ≤ gb303)); replace HBW := Aside0.mk (below_step HBW.out hb); replace HB := wb HB hb; clear hb hbox hg))); (go_ret); exact ⟨_, rfl, (show IsS47 w0 _ gb303 (l0.take 600) 0 from ⟨_, _, by refine pe ?_; exact BK303.out, GE303.out, HR302.out⟩), bw HB, bw HBW⟩
  ·rw [if_neg c3] at H; exact absurd H (by simp)
 ·rw [if_neg c2] at H; have c2b0 : decide (600 < (l0.length : Int)) = false := decide_eq_false c2; have c2b1 : decide (600 < l0.length) = false := decide_eq_false (by omega); clear c2; simp only [Option.some.injEq, Prod.mk.injEq] at H; obtain ⟨rfl, rfl⟩ := H; (go_enter Tryd.func8, Tryd.ntmps8); (go_wp2_with (first | ((with_reducible refine gate_dst (N := 10) rfl ?_); refine bx (N := 10) (cs := #[.slice A0 l0.length c0, .int .i64 0]) (t := 47) ?_; intro gb304 hg w6 hbox hb; have BK304 := Aside0.mk (hbox); have GW304 := gs HBW hg; have GE304 := Aside0.mk ((Nat.le_trans HW0.out (by rw [hg]; exact (below_size (bw HBW)) : w.heap.size ≤ gb304) : w0.heap.size ≤ gb304)); replace HBW := Aside0.mk (below_step HBW.out hb); replace HB := wb HB hb; clear hb hbox hg))); (go_ret); exact ⟨_, rfl, (show IsS47 w0 _ gb304 l0 0 from ⟨_, _, by refine pe ?_; exact BK304.out, GE304.out, HR0.out⟩), bw HB, bw HBW⟩

end Go.Proofs.YtbapkiclgkddcaaDoor.G

-- Printed by gp.py (a program of this session's own, over the kit's printer) out of the translation; Lean checks it.
namespace Go.Proofs.YtbapkiclgkddcaaDoor.G
open Go.Proofs.YtbapkiclgkddcaaDoor.Given Go.Proofs.YtbapkiclgkddcaaDoor.Short
open Go.RowKit Go.Proofs.YtbapkiclgkddcaaDoorW.PrintWords Go.Proofs.YtbapkiclgkddcaaDoorW.PrintLast Go.Proofs.YtbapkiclgkddcaaDoorW.PrintMore
attribute [local go_sem] max2_int min2_int max_two min_two max_three min_three max_four min_four   -- for this text's walks alone
set_option linter.unusedVariables false
set_option linter.unusedSimpArgs false

/-! ### tp_Raw: function 63 -/
def tp_Raw.f (s0_0 : List Int) (s0_1 : Int) : Option (Int × Int) := if s0_1 ≥ (s0_0.length : Int) then (some (0, s0_1)) else (if 0 ≤ (wrap64 ((wrap64 (s0_1 + 1)) - 1)) then (if (wrap64 ((wrap64 (s0_1 + 1)) - 1)) < (s0_0.length : Int) then (some (rd s0_0 (wrap64 ((wrap64 (s0_1 + 1)) - 1)), wrap64 (s0_1 + 1))) else (none)) else (none))
set_option maxHeartbeats 8000000 in
set_option maxRecDepth 100000 in
theorem tp_Raw.calls (g : Nat) (s0_0 : List Int) (s0_1 : Int) (r1 : Int) (r2 : Int) (w0 w : World) (hI : IsS47 w0 w g s0_0 s0_1) (hB : Below w0.heap.size w0 w) (h : tp_Raw.f s0_0 s0_1 = some (r1, r2)) :
  Calls Tryd.prog 63 #[.pointer (some ⟨g, 0, none⟩)] w fun e w' => e = .returned (.int .i64 r1) ∧ IsS47 w0 w' g s0_0 r2 ∧ Below w0.heap.size w0 w' ∧ KeepBut w w' g none := by
 have HI0 := Aside0.mk hI; have HK := Aside0.mk (KeepBut.refl w g none); have HL := Aside0.mk hB.size; clear hI; have HW0 := Aside0.mk hB.size; have HB := Aside0.mk hB; clear hB; have H : (if s0_1 ≥ (s0_0.length : Int) then (some (0, s0_1)) else (if 0 ≤ (wrap64 ((wrap64 (s0_1 + 1)) - 1)) then (if (wrap64 ((wrap64 (s0_1 + 1)) - 1)) < (s0_0.length : Int) then (some (rd s0_0 (wrap64 ((wrap64 (s0_1 + 1)) - 1)), wrap64 (s0_1 + 1))) else (none)) else (none))) = some (r1, r2) := h; clear h
 by_cases c2 : s0_1 ≥ (s0_0.length : Int)
 ·rw [if_pos c2] at H; have c2b0 : decide ((s0_0.length : Int) ≤ s0_1) = true := decide_eq_true c2; clear c2; simp only [Option.some.injEq, Prod.mk.injEq] at H; obtain ⟨rfl, rfl⟩ := H; obtain ⟨ASz3_0, cSz3_0, HGz3, hgz3, HSz3_0⟩ := HI0.out; have hcz3_0 := cellS47_0 HGz3; have hcz3_1 := cellS47_1 HGz3; have hfz3_1 := blk_frozen HGz3 1; clear HGz3 hgz3; (go_enter Tryd.func63, Tryd.ntmps63); (go_wp2); (repeat (go_quiet (fail); try go_wp2)); (go_ret); exact ⟨by first | rfl | (simp [errW_none, errW_some] <;> rfl) | (simp [*, errW_none, errW_some] <;> rfl), by repeat (first | (with_reducible first | exact HI0.out | apply IsS47.alloc | apply IsS47.drewN | apply IsS47.drew | apply IsS47.set_1) | exact HI0.out), by repeat (first | (with_reducible first | exact HB.out | apply below_alloc | apply pw_below_drewN | apply below_drew1 | refine below_set ?_ (IsS47.ge HI0.out)) | exact HB.out), by repeat (first | (with_reducible first | exact HK.out | apply KeepBut.set_ | apply keep_drewN | apply keep_drew | apply keep_alloc) | exact HK.out)⟩
 ·rw [if_neg c2] at H; have c2b0 : decide ((s0_0.length : Int) ≤ s0_1) = false := decide_eq_false c2; clear c2; obtain ⟨ji4, hji4⟩ : ∃ j_ : Int, (wrap64 ((wrap64 (s0_1 + 1)) - 1)) = j_ := ⟨_, rfl⟩; (replace H : (if 0 ≤ (ji4) then (if (ji4) < (s0_0.length : Int) then (some (rd s0_0 (ji4), wrap64 (s0_1 + 1))) else (none)) else (none)) = some (r1, r2) := by first | (rw [hji4] at H; exact H) | (simp only [hji4] at H ⊢; exact H)); have hji4w : (IntKind.i64.wrap ((wrap64 (s0_1 + 1)) - 1)) = ji4 := (i64_w _).trans hji4
  by_cases c5 : 0 ≤ (ji4)
  ·rw [if_pos c5] at H; have c5b0 : decide (0 ≤ (ji4)) = true := decide_eq_true c5; clear c5
   by_cases c6 : (ji4) < (s0_0.length : Int)
   ·rw [if_pos c6] at H; have c6b0 : decide ((ji4) < (s0_0.length : Int)) = true := decide_eq_true c6; clear c6; simp only [Option.some.injEq, Prod.mk.injEq] at H; obtain ⟨rfl, rfl⟩ := H; obtain ⟨ASz7_0, cSz7_0, HGz7, hgz7, HSz7_0⟩ := HI0.out; have hcz7_0 := cellS47_0 HGz7; have hcz7_1 := cellS47_1 HGz7; have hfz7_1 := blk_frozen HGz7 1; clear HGz7 hgz7; have p305 : 0 ≤ ((ji4) : Int) := of_decide_eq_true (by first | (with_reducible assumption) | assumption); have q305 : (ji4) < (s0_0.length : Int) := of_decide_eq_true (by first | (with_reducible assumption) | assumption); obtain ⟨ad305, e305, hx305_0⟩ := Kd.at_int HSz7_0 (ji4) p305 q305
    cases e305
    have hn305_0 : ad305.block ≠ g := Nat.ne_of_lt (Nat.lt_of_lt_of_le (by have := World.block_lt_of_cell? _ _ hx305_0; first | rwa [add_block] at this | exact this) (IsS47.ge HI0.out)); replace hx305_0 := pw_cell_below HB.out hx305_0; replace hx305_0 := (cell_far (p := ⟨g, 1, none⟩) (by first | (rw [add_block]; exact hn305_0) | (show (Addr.add _ _).block ≠ _; rw [add_block]; exact hn305_0) | exact hn305_0) (.int .i64 (wrap64 (s0_1 + 1)))).trans hx305_0; (try have hy305_0 := fun (n_ : Nat) => (show (((w.drewN n_).setCell ⟨g, 1, none⟩ (.int .i64 (wrap64 (s0_1 + 1))))).cell? _ = some _ from hx305_0)); clear hn305_0; replace p305 := eq_true p305; replace q305 := eq_true q305; (go_enter Tryd.func63, Tryd.ntmps63); (go_wp2); (repeat (go_quiet (fail); try go_wp2)); (go_ret); exact ⟨by first | rfl | (simp [errW_none, errW_some] <;> rfl) | (simp only [← hji4]; first | rfl | (simp [errW_none, errW_some] <;> rfl)) | (simp [*, errW_none, errW_some] <;> rfl), by repeat (first | (with_reducible first | exact HI0.out | apply IsS47.alloc | apply IsS47.drewN | apply IsS47.drew | apply IsS47.set_1) | exact HI0.out), by repeat (first | (with_reducible first | exact HB.out | apply below_alloc | apply pw_below_drewN | apply below_drew1 | refine below_set ?_ (IsS47.ge HI0.out)) | exact HB.out), by repeat (first | (with_reducible first | exact HK.out | apply KeepBut.set_ | apply keep_drewN | apply keep_drew | apply keep_alloc) | exact HK.out)⟩
   ·rw [if_neg c6] at H; exact absurd H (by simp)
  ·rw [if_neg c5] at H; exact absurd H (by simp)

end Go.Proofs.YtbapkiclgkddcaaDoor.G
