/- Texts of this claim laid together: Gf36, Gf38. -/
import Derived.Test.YtcbohbeipgcfhaaShortC
import Derived.Test.YtcbohbeipgcfhaaG0
import Derived.Test.YtcbohbeipgcfhaaZSon8
import Derived.Test.YtcbohbeipgcfhaaZSon2
import Derived.Test.YtcbohbeipgcfhaaZSon1
import Derived.Test.YtcbohbeipgcfhaaZSon6
-- Printed by gp.py (a program of this session's own, over the kit's printer) out of the translation; Lean checks it.
namespace Go.Proofs.Ytcbohbeipgcfhaa.G
open Go.Proofs.Ytcbohbeipgcfhaa.Given Go.Proofs.Ytcbohbeipgcfhaa.Short
open Go.RowKit Go.Proofs.YtcbohbeipgcfhaaW.PrintWords Go.Proofs.YtcbohbeipgcfhaaW.PrintLast Go.Proofs.YtcbohbeipgcfhaaW.PrintMore
attribute [local go_sem] max2_int min2_int max_two min_two max_three min_three max_four min_four   -- for this text's walks alone
set_option linter.unusedVariables false
set_option linter.unusedSimpArgs false

/-! ### ratio_Sum: function 36 -/
mutual
def ratio_Sum.l0 : Nat → List (S35) → List (S35) → Int → Int → Option (Int × Int × Int)
 | 0, _, _, _, _ => none
 | k + 1, x0, x19, x20, x21 => if x21 < x20 then (if 0 ≤ x21 then (if x21 < (x19.length : Int) then ((ratio_Valid.f k ((rd_T35 x19 x21).f0) ((rd_T35 x19 x21).f1)).bind fun t556 => (if t556 = true then (ratio_Sum.l0 k x0 x19 x20 (wrap64 (x21 + 1))) else (some (0, 0, 1)))) else (none)) else (none)) else (ratio_Sum.l1 k x0 1 x0 (x0.length : Int) 0)
def ratio_Sum.l1 : Nat → List (S35) → Int → List (S35) → Int → Int → Option (Int × Int × Int)
 | 0, _, _, _, _, _ => none
 | k + 1, x0, x6, x30, x31, x32 => if x32 < x31 then (if 0 ≤ x32 then (if x32 < (x30.length : Int) then ((ratio_gcd.f k x6 (IntKind.u64.wrap ((rd_T35 x30 x32).f1))).bind fun t559 => (if t559 = 0 then (none) else ((bits_Mul64.f (IntKind.u64.wrap (Int.tdiv x6 t559)) (IntKind.u64.wrap ((rd_T35 x30 x32).f1))).bind fun bt560 => (if bt560.1 = 0 then (if bt560.2 > 1152921504606846976 then (some (0, 0, 6)) else (ratio_Sum.l1 k x0 bt560.2 x30 x31 (wrap64 (x32 + 1)))) else (some (0, 0, 6)))))) else (none)) else (none)) else (ratio_Sum.l2 k x6 x0 (x0.length : Int) 0 false 0 0)
def ratio_Sum.l2 : Nat → Int → List (S35) → Int → Int → Bool → Int → Int → Option (Int × Int × Int)
 | 0, _, _, _, _, _, _, _ => none
 | k + 1, x6, x58, x59, x60, x563000, x563001, x563002 => if x60 < x59 then (if 0 ≤ x60 then (if x60 < (x58.length : Int) then (if (IntKind.u64.wrap ((rd_T35 x58 x60).f1)) = 0 then (none) else ((ratio_times.f ((rd_T35 x58 x60).f0) (IntKind.u64.wrap (Int.tdiv x6 (IntKind.u64.wrap ((rd_T35 x58 x60).f1))))).bind fun bt565 => ((ratio_wide_plus.f k x563000 x563001 x563002 bt565.1 bt565.2.1 bt565.2.2).bind fun bt568 => (ratio_Sum.l2 k x6 x58 x59 (wrap64 (x60 + 1)) bt568.1 bt568.2.1 bt568.2.2)))) else (none)) else (none)) else ((ratio_lowest.f k x563000 x563001 x563002 x6).bind fun bt571 => (some (bt571.1, bt571.2.1, bt571.2.2)))
end
def ratio_Sum.f (k : Nat) (l0 : List (S35)) : Option (Int × Int × Int) := if (l0.length : Int) > 100 then (some (0, 0, 3)) else (ratio_Sum.l0 k l0 l0 (l0.length : Int) 0)
theorem ratio_Sum.mono_l : ∀ k, (∀ y0 y1 y2 y3, LeO (ratio_Sum.l0 k y0 y1 y2 y3) (ratio_Sum.l0 (k + 1) y0 y1 y2 y3)) ∧ (∀ y0 y1 y2 y3 y4, LeO (ratio_Sum.l1 k y0 y1 y2 y3 y4) (ratio_Sum.l1 (k + 1) y0 y1 y2 y3 y4)) ∧ (∀ y0 y1 y2 y3 y4 y5 y6, LeO (ratio_Sum.l2 k y0 y1 y2 y3 y4 y5 y6) (ratio_Sum.l2 (k + 1) y0 y1 y2 y3 y4 y5 y6))
 | 0 => ⟨fun _ _ _ _ r h => by simp [ratio_Sum.l0] at h, fun _ _ _ _ _ r h => by simp [ratio_Sum.l1] at h, fun _ _ _ _ _ _ _ r h => by simp [ratio_Sum.l2] at h⟩
 | k + 1 => by
  obtain ⟨ih0, ih1, ih2⟩ := ratio_Sum.mono_l k; refine ⟨?_, ?_, ?_⟩
  ·intro y0 y1 y2 y3; unfold ratio_Sum.l0
   repeat' first
   | (with_reducible exact ih0 _ _ _ _)
   | (with_reducible exact ih1 _ _ _ _ _)
   | (with_reducible exact ih2 _ _ _ _ _ _ _)
   | (with_reducible exact ratio_Valid.mono _ _ _)
   | (with_reducible exact ratio_gcd.mono _ _ _)
   | (with_reducible exact ratio_lowest.mono _ _ _ _ _)
   | (with_reducible exact ratio_wide_plus.mono _ _ _ _ _ _ _)
   | (with_reducible exact LeO.refl _)
   | (with_reducible exact LeO.none _)
   | (with_reducible refine LeO.ite ?_ ?_)
   | (with_reducible refine LeO.bind ?_ (fun _ => ?_))
   | exact ih0 _ _ _ _
   | exact ih1 _ _ _ _ _
   | exact ih2 _ _ _ _ _ _ _
   | exact ratio_Valid.mono _ _ _
   | exact ratio_gcd.mono _ _ _
   | exact ratio_lowest.mono _ _ _ _ _
   | exact ratio_wide_plus.mono _ _ _ _ _ _ _
   | exact LeO.none _
   | refine LeO.ite ?_ ?_
   | refine LeO.bind ?_ (fun _ => ?_)
  ·intro y0 y1 y2 y3 y4; unfold ratio_Sum.l1
   repeat' first
   | (with_reducible exact ih0 _ _ _ _)
   | (with_reducible exact ih1 _ _ _ _ _)
   | (with_reducible exact ih2 _ _ _ _ _ _ _)
   | (with_reducible exact ratio_Valid.mono _ _ _)
   | (with_reducible exact ratio_gcd.mono _ _ _)
   | (with_reducible exact ratio_lowest.mono _ _ _ _ _)
   | (with_reducible exact ratio_wide_plus.mono _ _ _ _ _ _ _)
   | (with_reducible exact LeO.refl _)
   | (with_reducible exact LeO.none _)
   | (with_reducible refine LeO.ite ?_ ?_)
   | (with_reducible refine LeO.bind ?_ (fun _ => ?_))
   | exact ih0 _ _ _ _
   | exact ih1 _ _ _ _ _
   | exact ih2 _ _ _ _ _ _ _
   | exact ratio_Valid.mono _ _ _
   | exact ratio_gcd.mono _ _ _
   | exact ratio_lowest.mono _ _ _ _ _
   | exact ratio_wide_plus.mono _ _ _ _ _ _ _
   | exact LeO.none _
   | refine LeO.ite ?_ ?_
   | refine LeO.bind ?_ (fun _ => ?_)
  ·intro y0 y1 y2 y3 y4 y5 y6; unfold ratio_Sum.l2
   repeat' first
   | (with_reducible exact ih0 _ _ _ _)
   | (with_reducible exact ih1 _ _ _ _ _)
   | (with_reducible exact ih2 _ _ _ _ _ _ _)
   | (with_reducible exact ratio_Valid.mono _ _ _)
   | (with_reducible exact ratio_gcd.mono _ _ _)
   | (with_reducible exact ratio_lowest.mono _ _ _ _ _)
   | (with_reducible exact ratio_wide_plus.mono _ _ _ _ _ _ _)
   | (with_reducible exact LeO.refl _)
   | (with_reducible exact LeO.none _)
   | (with_reducible refine LeO.ite ?_ ?_)
   | (with_reducible refine LeO.bind ?_ (fun _ => ?_))
   | exact ih0 _ _ _ _
   | exact ih1 _ _ _ _ _
   | exact ih2 _ _ _ _ _ _ _
   | exact ratio_Valid.mono _ _ _
   | exact ratio_gcd.mono _ _ _
   | exact ratio_lowest.mono _ _ _ _ _
   | exact ratio_wide_plus.mono _ _ _ _ _ _ _
   | exact LeO.none _
   | refine LeO.ite ?_ ?_
   | refine LeO.bind ?_ (fun _ => ?_)
theorem ratio_Sum.mono : ∀ a0 k, LeO (ratio_Sum.f k a0) (ratio_Sum.f (k + 1) a0) := by
 intro a0 k; obtain ⟨ih0, ih1, ih2⟩ := ratio_Sum.mono_l k; unfold ratio_Sum.f
 repeat' first
   | (with_reducible exact ih0 _ _ _ _)
   | (with_reducible exact ih1 _ _ _ _ _)
   | (with_reducible exact ih2 _ _ _ _ _ _ _)
   | (with_reducible exact ratio_Valid.mono _ _ _)
   | (with_reducible exact ratio_gcd.mono _ _ _)
   | (with_reducible exact ratio_lowest.mono _ _ _ _ _)
   | (with_reducible exact ratio_wide_plus.mono _ _ _ _ _ _ _)
   | (with_reducible exact LeO.refl _)
   | (with_reducible exact LeO.none _)
   | (with_reducible refine LeO.ite ?_ ?_)
   | (with_reducible refine LeO.bind ?_ (fun _ => ?_))
   | exact ih0 _ _ _ _
   | exact ih1 _ _ _ _ _
   | exact ih2 _ _ _ _ _ _ _
   | exact ratio_Valid.mono _ _ _
   | exact ratio_gcd.mono _ _ _
   | exact ratio_lowest.mono _ _ _ _ _
   | exact ratio_wide_plus.mono _ _ _ _ _ _ _
   | exact LeO.none _
   | refine LeO.ite ?_ ?_
   | refine LeO.bind ?_ (fun _ => ?_)
def ratio_Sum.T23 : Bool × List (List Nat × List Nat) := (true, [([], []), ([], []), ([1], [1]), ([], []), ([], []), ([4], [4]), ([5], [5]), ([3, 6], [3, 6]), ([2, 7], [2, 7]), ([0, 8, 8], [0, 8]), ([9, 9, 0, 1, 2, 3, 4, 5, 6, 7, 8, 9], [9])])
def ratio_Sum.B23 : List Nat := [0, 0, 2, 0, 0, 16, 48, 120, 254, 511, 1023]
theorem ratio_Sum.tab23 : rtab .any (opsOf Try.f36 23) = ratio_Sum.T23 := by kernel_rfl
theorem ratio_Sum.bits23 : waitsOk ratio_Sum.T23.2 ratio_Sum.B23 = true := by kernel_rfl
set_option maxHeartbeats 8000000 in
set_option maxRecDepth 100000 in
theorem ratio_Sum.calls (k : Nat) (A0 : Option Addr) (c0 : Nat) (l0 : List (S35)) (r1 : Int) (r2 : Int) (r3 : Int) (w : World) (hr0 : Kd.C k35 w A0 l0.length l0) (hc0 : l0.length ≤ c0) (h : ratio_Sum.f k l0 = some (r1, r2, r3)) :
  Calls Try.prog 36 #[.slice A0 l0.length c0] w fun e w' => e = .returned (.tuple #[.agg #[.int .i64 r1, .int .i64 r2], .int .i64 r3]) ∧ Below w.heap.size w w' := by
 have hu35 := Try.underlying35; have hu58 := Try.underlying58; have HR0 := Aside0.mk hr0; have HC0 := Aside0.mk hc0; clear hr0 hc0; have HB := Aside0.mk (Below.refl w.heap.size w); have H : (if (l0.length : Int) > 100 then (some (0, 0, 3)) else (ratio_Sum.l0 k l0 l0 (l0.length : Int) 0)) = some (r1, r2, r3) := h; clear h
 by_cases c2 : (l0.length : Int) > 100
 ·rw [if_pos c2] at H; have c2b0 : decide (100 < (l0.length : Int)) = true := decide_eq_true c2; have c2b1 : decide (100 < l0.length) = true := decide_eq_true (by omega); clear c2; simp only [Option.some.injEq, Prod.mk.injEq] at H; obtain ⟨rfl, rfl, rfl⟩ := H; (go_enter Try.func36, Try.ntmps36); (go_wp2_with (first | ((with_reducible refine gate_dst (N := 2) rfl ?_); refine bx (N := 2) (cs := #[.int .i64 0, .int .i64 0]) (t := 35) ?_; intro gb553 hg w3 hbox hb; have BK553 := Aside0.mk (hbox); have GW553 := gs HB hg; have GE553 := gs HB hg; replace HB := wb HB hb; clear hb hbox hg; have hcz4_0 : w3.cell? ⟨gb553, 0, none⟩ = some (.int .i64 0) := bc BK553 0; have hcz4_1 : w3.cell? ⟨gb553, 1, none⟩ = some (.int .i64 0) := bc BK553 1; have hfz4_0 := blk_frozen BK553.out 0; have hfz4_1 := blk_frozen BK553.out 1))); refine bodyPost_ret (results_ct rfl _ _ gb553 35 #[.int .i64 0, .int .i64 0] (0, 0) _ rfl (by refine pe ?_; refine blk_put (cs := #[.int .i64 0, .int .i64 0]) ?_ 1 _ rfl; refine pe ?_; refine blk_put (cs := #[.int .i64 0, .int .i64 0]) ?_ 0 _ rfl; refine pe ?_; exact BK553.out) Try.underlying35 rfl (by kernel_rfl)) rfl ?_; exact ⟨by first | rfl | (simp [errW_none, errW_some] <;> rfl) | (simp [*, errW_none, errW_some] <;> rfl), bw HB⟩
 ·rw [if_neg c2] at H; have c2b0 : decide (100 < (l0.length : Int)) = false := decide_eq_false c2; have c2b1 : decide (100 < l0.length) = false := decide_eq_false (by omega); clear c2; have H' := Aside0.mk H; clear H; (go_enter Try.func36, Try.ntmps36); (go_wp2_with (first | ((with_reducible refine gate_dst (N := 2) rfl ?_); refine bx (N := 2) (cs := #[.int .i64 0, .int .i64 0]) (t := 35) ?_; intro gb553 hg w5 hbox hb; have BK553 := Aside0.mk (hbox); have GW553 := gs HB hg; have GE553 := gs HB hg; replace HB := wb HB hb; clear hb hbox hg))); (try simp only [Act.put, List.setIfInBounds_toArray, List.set_cons_zero, List.set_cons_succ])
  go_loopg [21] k (fun kq v21 w' => ∃ (x21_1 : Int) (x554000_1 : Int) (x554001_1 : Int), v21 = .int .i64 x21_1 ∧ Aside0 (ratio_Sum.l0 kq l0 l0 (l0.length : Int) x21_1 = some (r1, r2, r3)) ∧ Aside0 (kq ≤ k) ∧ Aside0 (w'.heap[gb553]? = some (.cells #[.int .i64 x554000_1, .int .i64 x554001_1] 35 (0, 0))) ∧ Aside0 (Below w.heap.size w w'))
  case atStart => exact ⟨(0), (0), (0), (by first | rfl | (simp; done) | (simp [*]; done)), H', ⟨Nat.le_refl _⟩, ⟨bq BK553⟩, ⟨bw HB⟩⟩
  case round =>
   clear H'; (try clear c2); (try clear c2b0); (try clear c2b1); (try clear p2); (try clear c3); (try clear hcz4_0); (try clear hcz4_1); (try clear hfz4_0); (try clear hfz4_1); obtain ⟨x21_1, x554000_1, x554001_1, rfl, HA, HK1, BK553, HB⟩ := hrel
   cases gk with
   | zero => exact absurd HA.out (by simp [ratio_Sum.l0])
   | succ k1 =>
    have H := HA.out; clear HA; simp only [ratio_Sum.l0] at H
    by_cases c6 : x21_1 < (l0.length : Int)
    ·rw [if_pos c6] at H; have c6b0 : decide (x21_1 < (l0.length : Int)) = true := decide_eq_true c6; clear c6
     by_cases c7 : 0 ≤ x21_1
     ·rw [if_pos c7] at H; have c7b0 : decide (0 ≤ x21_1) = true := decide_eq_true c7; clear c7
      by_cases c8 : x21_1 < (l0.length : Int)
      ·rw [if_pos c8] at H; have c8b0 : decide (x21_1 < (l0.length : Int)) = true := decide_eq_true c8; clear c8; replace H := Option.bind_eq_some_iff.mp H; obtain ⟨t556, A90, H⟩ := H; (try dsimp only at H); have A9 := Aside0.mk A90; clear A90; have HC10 := Aside0.mk H; clear H; have p554 : 0 ≤ (x21_1 : Int) := of_decide_eq_true (by first | (with_reducible assumption) | assumption); have q554 : x21_1 < (l0.length : Int) := of_decide_eq_true (by first | (with_reducible assumption) | assumption); obtain ⟨ad554, e554, hx554_0, hx554_1⟩ := at_T35 HR0.out x21_1 p554 q554
       cases e554
       replace hx554_0 := (HB.out.cell (World.block_lt_of_cell? w _ hx554_0)).trans hx554_0; replace hx554_1 := (HB.out.cell (World.block_lt_of_cell? w _ hx554_1)).trans hx554_1; replace p554 := eq_true p554; replace q554 := eq_true q554
       go_upto_if 27 with (first | ((with_reducible refine gate_dst (N := 5) rfl ?_); refine bx (N := 5) (cs := #[.int .i64 0, .int .i64 0]) (t := 35) ?_; intro gb555 hg w11 hbox hb; have BK555 := Aside0.mk (hbox); have GW555 := gs HB hg; have GE555 := gs HB hg; have NB553_555 := nl BK553 hg; have NB555_553 := nr BK553 hg; replace BK553 := kb BK553 hb; replace HB := wb HB hb; clear hb hbox hg; obtain ⟨hnb12, hnc12⟩ := n2 NB555_553; have hcz13_0 : w11.cell? ⟨gb555, 0, none⟩ = some (.int .i64 0) := bc BK555 0; have hcz13_1 : w11.cell? ⟨gb555, 1, none⟩ = some (.int .i64 0) := bc BK555 1; have hfz13_0 := blk_frozen BK555.out 0; have hfz13_1 := blk_frozen BK555.out 1) | ((with_reducible refine gate_callee (f := 24) rfl ?_); refine gl (some 26) Try.func24 #[.agg #[.int .i64 ((rd_T35 l0 x21_1).f0), .int .i64 ((rd_T35 l0 x21_1).f1)]] ?_; (with_reducible refine (ratio_Valid.calls k1 ((rd_T35 l0 x21_1).f0) ((rd_T35 l0 x21_1).f1) t556 _ A9.out).mono ?_); rintro e w14 ⟨rfl, hb⟩; refine ⟨_, rfl, ?_⟩; replace BK553 := kb BK553 hb; replace BK555 := Aside0.mk (blk_below (g := gb555) (o := .cells #[.int .i64 ((rd_T35 l0 x21_1).f0), .int .i64 ((rd_T35 l0 x21_1).f1)] 35 (0, 0)) (by refine pe ?_; refine blk_put (cs := #[.int .i64 ((rd_T35 l0 x21_1).f0), .int .i64 0]) ?_ 1 _ rfl; refine pe ?_; refine blk_put (cs := #[.int .i64 0, .int .i64 0]) ?_ 0 _ rfl; refine pe ?_; exact BK555.out) hb); replace HB := wb HB hb; (try clear hb); (try clear hb2); (try clear hk); (try clear hi)))
       (try simp only [Act.put, List.setIfInBounds_toArray, List.set_cons_zero, List.set_cons_succ]); have H := HC10.out; clear HC10
       by_cases c15 : t556 = true
       ·subst c15; (have H1 : (ratio_Sum.l0 k1 l0 l0 (l0.length : Int) (wrap64 (x21_1 + 1))) = some (r1, r2, r3) := by rw [if_pos rfl] at H; exact H); clear H; have H := H1; clear H1; have H' := Aside0.mk H; clear H; go_wp2
        go_roundg k1
        case measure => have := HK1.out; omega
        case rel => exact ⟨(wrap64 (x21_1 + 1)), (x554000_1), (x554001_1), (by first | rfl | (simp; done) | (simp [*]; done)), H', ⟨by have := HK1.out; omega⟩, ⟨bq BK553⟩, ⟨bw HB⟩⟩
       ·replace c15 := Bool.eq_false_iff.mpr c15; subst c15; (have H1 : (some (0, 0, 1)) = some (r1, r2, r3) := by rw [if_neg (show ¬ (false = true) by decide)] at H; exact H); clear H; have H := H1; clear H1; simp only [Option.some.injEq, Prod.mk.injEq] at H; obtain ⟨rfl, rfl, rfl⟩ := H; obtain ⟨hnb16, hnc16⟩ := n2 NB553_555; have hcz17_0 : w14.cell? ⟨gb553, 0, none⟩ = some (.int .i64 x554000_1) := bc BK553 0; have hcz17_1 : w14.cell? ⟨gb553, 1, none⟩ = some (.int .i64 x554001_1) := bc BK553 1; have hfz17_0 := blk_frozen BK553.out 0; have hfz17_1 := blk_frozen BK553.out 1; (go_wp2); refine bodyPost_ret (results_ct rfl _ _ gb553 35 #[.int .i64 0, .int .i64 0] (0, 0) _ rfl (by refine pe ?_; refine blk_put (cs := #[.int .i64 0, .int .i64 x554001_1]) ?_ 1 _ rfl; refine pe ?_; refine blk_put (cs := #[.int .i64 x554000_1, .int .i64 x554001_1]) ?_ 0 _ rfl; refine pe ?_; exact BK553.out) Try.underlying35 rfl (by kernel_rfl)) rfl ?_; exact ⟨by first | rfl | (simp [errW_none, errW_some] <;> rfl) | (simp [*, errW_none, errW_some] <;> rfl), bw HB⟩
      ·rw [if_neg c8] at H; exact absurd H (by simp)
     ·rw [if_neg c7] at H; exact absurd H (by simp)
    ·rw [if_neg c6] at H; have c6b0 : decide (x21_1 < (l0.length : Int)) = false := decide_eq_false c6; clear c6; have H' := Aside0.mk H; clear H; (go_wp2); (try simp only [Act.put, List.setIfInBounds_toArray, List.set_cons_zero, List.set_cons_succ])
     go_loopg [6, 32] k1 (fun kq v6 v32 w' => ∃ (x6_2 : Int) (x32_2 : Int) (x554000_2 : Int) (x554001_2 : Int), v6 = .int .u64 x6_2 ∧ v32 = .int .i64 x32_2 ∧ Aside0 (ratio_Sum.l1 kq l0 x6_2 l0 (l0.length : Int) x32_2 = some (r1, r2, r3)) ∧ Aside0 (kq ≤ k1) ∧ Aside0 (w'.heap[gb553]? = some (.cells #[.int .i64 x554000_2, .int .i64 x554001_2] 35 (0, 0))) ∧ Aside0 (Below w.heap.size w w'))
     case atStart => exact ⟨(1), (0), (x554000_1), (x554001_1), (by first | rfl | (simp; done) | (simp [*]; done)), (by first | rfl | (simp; done) | (simp [*]; done)), H', ⟨Nat.le_refl _⟩, ⟨bq BK553⟩, ⟨bw HB⟩⟩
     case round =>
      clear H'; (try clear c1); (try clear c2); (try clear c2b0); (try clear c2b1); (try clear p2); (try clear c3); (try clear p5); (try clear q5); (try clear hx5); (try clear c6); (try clear c6b0); (try clear p6); (try clear c7); (try clear c7b0); (try clear c8); (try clear c8b0); (try clear c12); (try clear c15); (try clear c16); (try clear hcz13_0); (try clear hcz13_1); (try clear hcz17_0); (try clear hcz17_1); (try clear hcz4_0); (try clear hcz4_1); (try clear hfz13_0); (try clear hfz13_1); (try clear hfz17_0); (try clear hfz17_1); (try clear hfz4_0); (try clear hfz4_1); (try clear hx554_0); (try clear hx554_1); (try clear p2); (try clear p554); (try clear q554); obtain ⟨x6_2, x32_2, x554000_2, x554001_2, rfl, rfl, HA, HK2, BK553, HB⟩ := hrel
      cases gk with
      | zero => exact absurd HA.out (by simp [ratio_Sum.l1])
      | succ k2 =>
       have H := HA.out; clear HA; simp only [ratio_Sum.l1] at H
       by_cases c18 : x32_2 < (l0.length : Int)
       ·rw [if_pos c18] at H; have c18b0 : decide (x32_2 < (l0.length : Int)) = true := decide_eq_true c18; clear c18
        by_cases c19 : 0 ≤ x32_2
        ·rw [if_pos c19] at H; have c19b0 : decide (0 ≤ x32_2) = true := decide_eq_true c19; clear c19
         by_cases c20 : x32_2 < (l0.length : Int)
         ·rw [if_pos c20] at H; have c20b0 : decide (x32_2 < (l0.length : Int)) = true := decide_eq_true c20; clear c20; replace H := Option.bind_eq_some_iff.mp H; obtain ⟨t559, A210, H⟩ := H; (try dsimp only at H); have A21 := Aside0.mk A210; clear A210
          by_cases c22 : t559 = 0
          ·rw [if_pos c22] at H; exact absurd H (by simp)
          ·rw [if_neg c22] at H; have c22b0 : (t559 == 0) = false := beq_eq_false_iff_ne.mpr c22; have c22b1 : (t559 != 0) = true := bne_iff_ne.mpr c22; replace H := Option.bind_eq_some_iff.mp H; obtain ⟨⟨t560, t561⟩, A230, H⟩ := H; (try dsimp only at H); have A23 := Aside0.mk A230; clear A230; have HC24 := Aside0.mk H; clear H; have p557 : 0 ≤ (x32_2 : Int) := of_decide_eq_true (by first | (with_reducible assumption) | assumption); have q557 : x32_2 < (l0.length : Int) := of_decide_eq_true (by first | (with_reducible assumption) | assumption); obtain ⟨ad557, e557, hx557_0, hx557_1⟩ := at_T35 HR0.out x32_2 p557 q557
           cases e557
           replace hx557_0 := (HB.out.cell (World.block_lt_of_cell? w _ hx557_0)).trans hx557_0; replace hx557_1 := (HB.out.cell (World.block_lt_of_cell? w _ hx557_1)).trans hx557_1; replace p557 := eq_true p557; replace q557 := eq_true q557
           go_upto_region 15 with (first | ((with_reducible refine gate_dst (N := 8) rfl ?_); refine bx (N := 8) (cs := #[.int .i64 0, .int .i64 0]) (t := 35) ?_; intro gb558 hg w25 hbox hb; have BK558 := Aside0.mk (hbox); have GW558 := gs HB hg; have GE558 := gs HB hg; have NB553_558 := nl BK553 hg; have NB558_553 := nr BK553 hg; replace BK553 := kb BK553 hb; replace HB := wb HB hb; clear hb hbox hg; obtain ⟨hnb26, hnc26⟩ := n2 NB558_553; have hcz27_0 : w25.cell? ⟨gb558, 0, none⟩ = some (.int .i64 0) := bc BK558 0; have hcz27_1 : w25.cell? ⟨gb558, 1, none⟩ = some (.int .i64 0) := bc BK558 1; have hfz27_0 := blk_frozen BK558.out 0; have hfz27_1 := blk_frozen BK558.out 1) | ((with_reducible refine gate_callee (f := 52) rfl ?_); refine gl (some 43) Try.func52 #[.int .u64 x6_2, .int .u64 (IntKind.u64.wrap ((rd_T35 l0 x32_2).f1))] ?_; (with_reducible refine (ratio_gcd.calls k2 x6_2 (IntKind.u64.wrap ((rd_T35 l0 x32_2).f1)) t559 _ A21.out).mono ?_); rintro e w' ⟨rfl, ⟨nd, rfl⟩⟩; refine ⟨_, rfl, ?_⟩) | ((with_reducible refine gate_callee (f := 57) rfl ?_); refine gl (some 46) Try.func57 #[.int .u64 (IntKind.u64.wrap (Int.tdiv x6_2 t559)), .int .u64 (IntKind.u64.wrap ((rd_T35 l0 x32_2).f1))] ?_; (with_reducible refine (bits_Mul64.calls (IntKind.u64.wrap (Int.tdiv x6_2 t559)) (IntKind.u64.wrap ((rd_T35 l0 x32_2).f1)) t560 t561 _ A23.out).mono ?_); rintro e w' ⟨rfl, ⟨nd, rfl⟩⟩; refine ⟨_, rfl, ?_⟩))
           (try simp only [Act.put, List.setIfInBounds_toArray, List.set_cons_zero, List.set_cons_succ]); have H := HC24.out; clear HC24
           by_cases c28 : t560 = 0
           ·rw [if_pos c28] at H; have c28b0 : (t560 == 0) = true := beq_iff_eq.mpr c28; have c28b1 : (t560 != 0) = false := bne_eq_false_iff_eq.mpr c28; clear c28
            (first | rw [c28b0] | (simp only [i64_w, i32_w]; rw [c28b0]) | skip)
            by_cases c29 : t561 > 1152921504606846976
            ·rw [if_pos c29] at H; have c29b0 : decide (1152921504606846976 < t561) = true := decide_eq_true c29; clear c29; simp only [Option.some.injEq, Prod.mk.injEq] at H; obtain ⟨rfl, rfl, rfl⟩ := H; obtain ⟨hnb30, hnc30⟩ := n2 NB553_558; have hcz31_0 : w25.cell? ⟨gb553, 0, none⟩ = some (.int .i64 x554000_2) := bc BK553 0; have hcz31_1 : w25.cell? ⟨gb553, 1, none⟩ = some (.int .i64 x554001_2) := bc BK553 1; have hfz31_0 := blk_frozen BK553.out 0; have hfz31_1 := blk_frozen BK553.out 1; (go_wp2); refine bodyPost_ret (results_ct rfl _ _ gb553 35 #[.int .i64 0, .int .i64 0] (0, 0) _ rfl (by refine pe ?_; refine blk_put (cs := #[.int .i64 0, .int .i64 x554001_2]) ?_ 1 _ rfl; refine pe ?_; refine blk_put (cs := #[.int .i64 x554000_2, .int .i64 x554001_2]) ?_ 0 _ rfl; refine pe ?_; refine blk_far ?_ NB553_558.out _; refine pe ?_; refine blk_far ?_ NB553_558.out _; refine pe ?_; exact BK553.out) Try.underlying35 rfl (by kernel_rfl)) rfl ?_; exact ⟨by first | rfl | (simp [errW_none, errW_some] <;> rfl) | (simp [*, errW_none, errW_some] <;> rfl), bw HB⟩
            ·rw [if_neg c29] at H; have c29b0 : decide (1152921504606846976 < t561) = false := decide_eq_false c29; clear c29; have H' := Aside0.mk H; clear H; go_wp2
             go_roundg k2
             case measure => have := HK1.out; have := HK2.out; omega
             case rel => exact ⟨(t561), (wrap64 (x32_2 + 1)), (x554000_2), (x554001_2), (by first | rfl | (simp; done) | (simp [*]; done)), (by first | rfl | (simp; done) | (simp [*]; done)), H', ⟨by have := HK1.out; have := HK2.out; omega⟩, ⟨bq BK553⟩, ⟨bw HB⟩⟩
           ·rw [if_neg c28] at H; have c28b0 : (t560 == 0) = false := beq_eq_false_iff_ne.mpr c28; have c28b1 : (t560 != 0) = true := bne_iff_ne.mpr c28
            (first | rw [c28b0] | (simp only [i64_w, i32_w]; rw [c28b0]) | skip)
            simp only [Option.some.injEq, Prod.mk.injEq] at H; obtain ⟨rfl, rfl, rfl⟩ := H; obtain ⟨hnb32, hnc32⟩ := n2 NB553_558; have hcz33_0 : w25.cell? ⟨gb553, 0, none⟩ = some (.int .i64 x554000_2) := bc BK553 0; have hcz33_1 : w25.cell? ⟨gb553, 1, none⟩ = some (.int .i64 x554001_2) := bc BK553 1; have hfz33_0 := blk_frozen BK553.out 0; have hfz33_1 := blk_frozen BK553.out 1; (go_wp2); refine bodyPost_ret (results_ct rfl _ _ gb553 35 #[.int .i64 0, .int .i64 0] (0, 0) _ rfl (by refine pe ?_; refine blk_put (cs := #[.int .i64 0, .int .i64 x554001_2]) ?_ 1 _ rfl; refine pe ?_; refine blk_put (cs := #[.int .i64 x554000_2, .int .i64 x554001_2]) ?_ 0 _ rfl; refine pe ?_; refine blk_far ?_ NB553_558.out _; refine pe ?_; refine blk_far ?_ NB553_558.out _; refine pe ?_; exact BK553.out) Try.underlying35 rfl (by kernel_rfl)) rfl ?_; exact ⟨by first | rfl | (simp [errW_none, errW_some] <;> rfl) | (simp [*, errW_none, errW_some] <;> rfl), bw HB⟩
         ·rw [if_neg c20] at H; exact absurd H (by simp)
        ·rw [if_neg c19] at H; exact absurd H (by simp)
       ·rw [if_neg c18] at H; have c18b0 : decide (x32_2 < (l0.length : Int)) = false := decide_eq_false c18; clear c18; have H' := Aside0.mk H; clear H; (go_wp2_with (first | ((with_reducible refine gate_dst (N := 12) rfl ?_); refine bx (N := 12) (cs := #[.bool false, .int .u64 0, .int .u64 0]) (t := 58) ?_; intro gb562 hg w34 hbox hb; have BK562 := Aside0.mk (hbox); have GW562 := gs HB hg; have GE562 := gs HB hg; have NB553_562 := nl BK553 hg; have NB562_553 := nr BK553 hg; replace BK553 := kb BK553 hb; replace HB := wb HB hb; clear hb hbox hg))); (try simp only [Act.put, List.setIfInBounds_toArray, List.set_cons_zero, List.set_cons_succ])
        go_loopg [60] k2 (fun kq v60 w' => ∃ (x60_3 : Int) (x563000_3 : Bool) (x563001_3 : Int) (x563002_3 : Int), v60 = .int .i64 x60_3 ∧ Aside0 (ratio_Sum.l2 kq x6_2 l0 (l0.length : Int) x60_3 x563000_3 x563001_3 x563002_3 = some (r1, r2, r3)) ∧ Aside0 (kq ≤ k2) ∧ Aside0 (w'.heap[gb553]? = some (.cells #[.int .i64 x554000_2, .int .i64 x554001_2] 35 (0, 0))) ∧ Aside0 (w'.heap[gb562]? = some (.cells #[.bool x563000_3, .int .u64 x563001_3, .int .u64 x563002_3] 58 (0, 0))) ∧ Aside0 (Below w.heap.size w w'))
        case atStart => exact ⟨(0), (false), (0), (0), (by first | rfl | (simp; done) | (simp [*]; done)), H', ⟨Nat.le_refl _⟩, ⟨bq BK553⟩, ⟨bq BK562⟩, ⟨bw HB⟩⟩
        case round =>
         clear H'; (try clear c1); (try clear c2); (try clear c2b0); (try clear c2b1); (try clear p2); (try clear c3); (try clear c5); (try clear p5); (try clear q5); (try clear hx5); (try clear c6); (try clear c6b0); (try clear p6); (try clear c7); (try clear c7b0); (try clear c8); (try clear c8b0); (try clear c12); (try clear c15); (try clear c16); (try clear c18); (try clear c18b0); (try clear c19); (try clear c19b0); (try clear c20); (try clear c20b0); (try clear c22); (try clear c22b0); (try clear c22b1); (try clear c24); (try clear c26); (try clear c28); (try clear c28b0); (try clear c28b1); (try clear c29); (try clear c29b0); (try clear c30); (try clear c32); (try clear hcz13_0); (try clear hcz13_1); (try clear hcz17_0); (try clear hcz17_1); (try clear hcz27_0); (try clear hcz27_1); (try clear hcz31_0); (try clear hcz31_1); (try clear hcz33_0); (try clear hcz33_1); (try clear hcz4_0); (try clear hcz4_1); (try clear hfz13_0); (try clear hfz13_1); (try clear hfz17_0); (try clear hfz17_1); (try clear hfz27_0); (try clear hfz27_1); (try clear hfz31_0); (try clear hfz31_1); (try clear hfz33_0); (try clear hfz33_1); (try clear hfz4_0); (try clear hfz4_1); (try clear hx554_0); (try clear hx554_1); (try clear hx557_0); (try clear hx557_1); (try clear p2); (try clear p5); (try clear p554); (try clear p557); (try clear p6); (try clear q5); (try clear q554); (try clear q557); obtain ⟨x60_3, x563000_3, x563001_3, x563002_3, rfl, HA, HK3, BK553, BK562, HB⟩ := hrel
         cases gk with
         | zero => exact absurd HA.out (by simp [ratio_Sum.l2])
         | succ k3 =>
          have H := HA.out; clear HA; simp only [ratio_Sum.l2] at H
          by_cases c35 : x60_3 < (l0.length : Int)
          ·rw [if_pos c35] at H; have c35b0 : decide (x60_3 < (l0.length : Int)) = true := decide_eq_true c35; clear c35
           by_cases c36 : 0 ≤ x60_3
           ·rw [if_pos c36] at H; have c36b0 : decide (0 ≤ x60_3) = true := decide_eq_true c36; clear c36
            by_cases c37 : x60_3 < (l0.length : Int)
            ·rw [if_pos c37] at H; have c37b0 : decide (x60_3 < (l0.length : Int)) = true := decide_eq_true c37; clear c37
             by_cases c38 : (IntKind.u64.wrap ((rd_T35 l0 x60_3).f1)) = 0
             ·rw [if_pos c38] at H; exact absurd H (by simp)
             ·rw [if_neg c38] at H; have c38b0 : ((IntKind.u64.wrap ((rd_T35 l0 x60_3).f1)) == 0) = false := beq_eq_false_iff_ne.mpr c38; have c38b1 : ((IntKind.u64.wrap ((rd_T35 l0 x60_3).f1)) != 0) = true := bne_iff_ne.mpr c38; replace H := Option.bind_eq_some_iff.mp H; obtain ⟨⟨t565, t566, t567⟩, A390, H⟩ := H; (try dsimp only at H); have A39 := Aside0.mk A390; clear A390; replace H := Option.bind_eq_some_iff.mp H; obtain ⟨⟨t568, t569, t570⟩, A400, H⟩ := H; (try dsimp only at H); have A40 := Aside0.mk A400; clear A400; have H' := Aside0.mk H; clear H; have p563 : 0 ≤ (x60_3 : Int) := of_decide_eq_true (by first | (with_reducible assumption) | assumption); have q563 : x60_3 < (l0.length : Int) := of_decide_eq_true (by first | (with_reducible assumption) | assumption); obtain ⟨ad563, e563, hx563_0, hx563_1⟩ := at_T35 HR0.out x60_3 p563 q563
              cases e563
              replace hx563_0 := (HB.out.cell (World.block_lt_of_cell? w _ hx563_0)).trans hx563_0; replace hx563_1 := (HB.out.cell (World.block_lt_of_cell? w _ hx563_1)).trans hx563_1; replace p563 := eq_true p563; replace q563 := eq_true q563; (try go_wp2_with (first | ((with_reducible refine gate_dst (N := 14) rfl ?_); refine bx (N := 14) (cs := #[.int .i64 0, .int .i64 0]) (t := 35) ?_; intro gb564 hg w41 hbox hb; have BK564 := Aside0.mk (hbox); have GW564 := gs HB hg; have GE564 := gs HB hg; have NB553_564 := nl BK553 hg; have NB564_553 := nr BK553 hg; have NB562_564 := nl BK562 hg; have NB564_562 := nr BK562 hg; replace BK553 := kb BK553 hb; replace BK562 := kb BK562 hb; replace HB := wb HB hb; clear hb hbox hg; obtain ⟨hnb42, hnc42⟩ := n2 NB564_553; obtain ⟨hnb43, hnc43⟩ := n2 NB564_562; have hcz44_0 : w41.cell? ⟨gb564, 0, none⟩ = some (.int .i64 0) := bc BK564 0; have hcz44_1 : w41.cell? ⟨gb564, 1, none⟩ = some (.int .i64 0) := bc BK564 1; have hfz44_0 := blk_frozen BK564.out 0; have hfz44_1 := blk_frozen BK564.out 1))); have n0_ : Aside0 (((w41.setCell ⟨gb564, 0, none⟩ (.int .i64 ((rd_T35 l0 x60_3).f0))).setCell ⟨gb564, 1, none⟩ (.int .i64 ((rd_T35 l0 x60_3).f1))).heap[gb553]? = some (.cells #[.int .i64 x554000_2, .int .i64 x554001_2] 35 (0, 0))) := ⟨bq BK553⟩; have n1_ : Aside0 (((w41.setCell ⟨gb564, 0, none⟩ (.int .i64 ((rd_T35 l0 x60_3).f0))).setCell ⟨gb564, 1, none⟩ (.int .i64 ((rd_T35 l0 x60_3).f1))).heap[gb562]? = some (.cells #[.bool x563000_3, .int .u64 x563001_3, .int .u64 x563002_3] 58 (0, 0))) := ⟨bq BK562⟩; have n2_ : Aside0 (((w41.setCell ⟨gb564, 0, none⟩ (.int .i64 ((rd_T35 l0 x60_3).f0))).setCell ⟨gb564, 1, none⟩ (.int .i64 ((rd_T35 l0 x60_3).f1))).heap[gb564]? = some (.cells #[.int .i64 ((rd_T35 l0 x60_3).f0), .int .i64 ((rd_T35 l0 x60_3).f1)] 35 (0, 0))) := ⟨by refine pe ?_; refine blk_put (cs := #[.int .i64 ((rd_T35 l0 x60_3).f0), .int .i64 0]) ?_ 1 _ rfl; refine pe ?_; refine blk_put (cs := #[.int .i64 0, .int .i64 0]) ?_ 0 _ rfl; refine pe ?_; exact BK564.out⟩; have n3_ : Aside0 (Below w.heap.size w ((w41.setCell ⟨gb564, 0, none⟩ (.int .i64 ((rd_T35 l0 x60_3).f0))).setCell ⟨gb564, 1, none⟩ (.int .i64 ((rd_T35 l0 x60_3).f1)))) := ⟨bw HB⟩; (try clear BK553); (try clear BK562); (try clear BK564); (try clear HB); (generalize ((w41.setCell ⟨gb564, 0, none⟩ (.int .i64 ((rd_T35 l0 x60_3).f0))).setCell ⟨gb564, 1, none⟩ (.int .i64 ((rd_T35 l0 x60_3).f1))) = w45 at n0_ n1_ n2_ n3_ ⊢); have BK553 := n0_; have BK562 := n1_; have BK564 := n2_; have HB := n3_; clear n0_ n1_ n2_ n3_; have n0_ := Aside0.mk (blk_drew BK553.out); have n1_ := Aside0.mk (blk_drew BK562.out); have n2_ := Aside0.mk (blk_drew BK564.out); have n3_ := Aside0.mk (below_drew1 HB.out); clear BK553; clear BK562; clear BK564; clear HB; have BK553 := n0_; have BK562 := n1_; have BK564 := n2_; have HB := n3_; clear n0_ n1_ n2_ n3_; refine start_ (n := 11) (S := fun w' => w'.cell? ⟨gb562, 0, none⟩ = some (.bool x563000_3) ∧ w'.cell? ⟨gb562, 1, none⟩ = some (.int .u64 x563001_3) ∧ w'.cell? ⟨gb562, 2, none⟩ = some (.int .u64 x563002_3) ∧ w'.cell? ⟨gb564, 0, none⟩ = some (.int .i64 ((rd_T35 l0 x60_3).f0)) ∧ w'.cell? ⟨gb564, 1, none⟩ = some (.int .i64 ((rd_T35 l0 x60_3).f1))) (ds := [10]) #[false, false, false, false, false, false, false, false, false, false, false] (by kernel_rfl) rfl rfl ⟨bc BK562 0, bc BK562 1, bc BK562 2, bc BK564 0, bc BK564 1⟩ (fun hHeld => ?_); refine with_tabW ratio_Sum.tab23 ratio_Sum.bits23 (fun HT_ HW_ => ?_); (generalize w45.drew = w46 at BK553 BK562 BK564 HB hHeld ⊢); refine pure_ (i := 1) (N := some 65) (v := ?_) (a' := ?_) #[false, true, false, false, false, false, false, false, false, false, false] rfl rfl (any_of HT_.out (by kernel_rfl)) (fun _ _ _ h => h) (Or.inl ⟨by rfl, ?_⟩) ?_ ?_; rotate_left
              ·intro w'; (go_simp); with_reducible rfl
              rotate_left
              ·simp only [Act.put, List.setIfInBounds_toArray, List.set_cons_zero, List.set_cons_succ, i64_w, i32_w]; rfl
              refine pure_ (i := 3) (N := some 67) (v := ?_) (a' := ?_) #[false, true, false, true, false, false, false, false, false, false, false] rfl rfl (any_of HT_.out (by kernel_rfl)) (fun _ _ _ h => h) (Or.inl ⟨by rfl, ?_⟩) ?_ ?_; rotate_left
              ·intro w'; (go_simp); with_reducible rfl
              rotate_left
              ·simp only [Act.put, List.setIfInBounds_toArray, List.set_cons_zero, List.set_cons_succ, i64_w, i32_w]; rfl
              refine pure_ (i := 4) (N := some 68) (v := ?_) (a' := ?_) #[false, true, false, true, true, false, false, false, false, false, false] rfl rfl (any_of HT_.out (by kernel_rfl)) (fun _ _ _ h => h) (Or.inl ⟨by rfl, ?_⟩) ?_ ?_; rotate_left
              ·intro w'; (go_simp); with_reducible rfl
              rotate_left
              ·simp only [Act.put, List.setIfInBounds_toArray, List.set_cons_zero, List.set_cons_succ, i64_w, i32_w]; rfl
              refine take_ (i := 0) (N := some 64) (v := ?_) (a' := ?_) #[true, true, false, true, true, false, false, false, false, false, false] rfl rfl (take_ofW HT_.out HW_.out (by kernel_rfl)) (fun _ _ _ h => h) (Or.inl ⟨by rfl, ?_⟩) hHeld ?_ ?_; rotate_left
              ·rintro w' ⟨s0, s1, s2, s3, s4⟩; (go_simp); with_reducible rfl
              rotate_left
              ·simp only [Act.put, List.setIfInBounds_toArray, List.set_cons_zero, List.set_cons_succ, i64_w, i32_w]; rfl
              refine take_ (i := 2) (N := some 66) (v := ?_) (a' := ?_) #[true, true, true, true, true, false, false, false, false, false, false] rfl rfl (take_ofW HT_.out HW_.out (by kernel_rfl)) (fun _ _ _ h => h) (Or.inl ⟨by rfl, ?_⟩) hHeld ?_ ?_; rotate_left
              ·rintro w' ⟨s0, s1, s2, s3, s4⟩; (go_simp); with_reducible rfl
              rotate_left
              ·simp only [Act.put, List.setIfInBounds_toArray, List.set_cons_zero, List.set_cons_succ, i64_w, i32_w]; rfl
              refine take_ (i := 5) (N := some 69) (v := ?_) (a' := ?_) #[true, true, true, true, true, true, false, false, false, false, false] rfl rfl (take_ofW HT_.out HW_.out (by kernel_rfl)) (fun _ _ _ h => h) (Or.inl ⟨by rfl, ?_⟩) hHeld ?_ ?_; rotate_left
              ·rintro w' ⟨s0, s1, s2, s3, s4⟩; (go_simp); with_reducible rfl
              rotate_left
              ·simp only [Act.put, List.setIfInBounds_toArray, List.set_cons_zero, List.set_cons_succ, i64_w, i32_w]; rfl
              refine pure_ (i := 6) (N := some 70) (v := ?_) (a' := ?_) #[true, true, true, true, true, true, true, false, false, false, false] rfl rfl (any_of HT_.out (by kernel_rfl)) (fun _ _ _ h => h) (Or.inl ⟨by rfl, ?_⟩) ?_ ?_; rotate_left
              ·intro w'; (go_simp); with_reducible rfl
              rotate_left
              ·simp only [Act.put, List.setIfInBounds_toArray, List.set_cons_zero, List.set_cons_succ, i64_w, i32_w]; rfl
              refine pure_ (i := 7) (N := some 71) (v := ?_) (a' := ?_) #[true, true, true, true, true, true, true, true, false, false, false] rfl rfl (any_of HT_.out (by kernel_rfl)) (fun _ _ _ h => h) (Or.inl ⟨by rfl, ?_⟩) ?_ ?_; rotate_left
              ·intro w'; (go_simp); with_reducible rfl
              rotate_left
              ·simp only [Act.put, List.setIfInBounds_toArray, List.set_cons_zero, List.set_cons_succ, i64_w, i32_w]; rfl
              refine one_ (i := 8) (N := some 72) #[true, true, true, true, true, true, true, true, true, false, false] rfl rfl (one_of HT_.out (by kernel_rfl)) (by decide) (fun K hK => ?_); refine gz Try.func56 #[.int .i64 ((rd_T35 l0 x60_3).f0), .int .u64 (IntKind.u64.wrap (Int.tdiv x6_2 (IntKind.u64.wrap ((rd_T35 l0 x60_3).f1))))] ?_; (with_reducible refine (ratio_times.calls ((rd_T35 l0 x60_3).f0) (IntKind.u64.wrap (Int.tdiv x6_2 (IntKind.u64.wrap ((rd_T35 l0 x60_3).f1)))) t565 t566 t567 _ A39.out).mono ?_); rintro e w47 ⟨rfl, hb⟩; refine ⟨_, rfl, ?_⟩; have n0_ := kb BK553 hb; have n1_ := kb BK562 hb; have n2_ := kb BK564 hb; have n3_ := wb HB hb; clear BK553; clear BK562; clear BK564; clear HB; have BK553 := n0_; have BK562 := n1_; have BK564 := n2_; have HB := n3_; clear n0_ n1_ n2_ n3_; (try clear hb); (try clear hb2); (try clear hk); (try clear hi); refine hK.out _ _ ⟨bc BK562 0, bc BK562 1, bc BK562 2, bc BK564 0, bc BK564 1⟩ (fun hHeld => ?_); clear hK K; refine norm_ (a' := ?_) ?_ ?_; rotate_left
              ·show Act.put _ (some 72) _ = _; simp only [Act.put, List.setIfInBounds_toArray, List.set_cons_zero, List.set_cons_succ, i64_w, i32_w]; rfl
              refine one_ (i := 9) (N := some 73) #[true, true, true, true, true, true, true, true, true, true, false] rfl rfl (one_of HT_.out (by kernel_rfl)) (by decide) (fun K hK => ?_); refine gz Try.func62 #[.agg #[.bool x563000_3, .int .u64 x563001_3, .int .u64 x563002_3], .agg #[.bool t565, .int .u64 t566, .int .u64 t567]] ?_; (with_reducible refine (ratio_wide_plus.calls k3 x563000_3 x563001_3 x563002_3 t565 t566 t567 t568 t569 t570 _ A40.out).mono ?_); rintro e w48 ⟨rfl, hb⟩; refine ⟨_, rfl, ?_⟩; have n0_ := kb BK553 hb; have n1_ := kb BK562 hb; have n2_ := kb BK564 hb; have n3_ := wb HB hb; clear BK553; clear BK562; clear BK564; clear HB; have BK553 := n0_; have BK562 := n1_; have BK564 := n2_; have HB := n3_; clear n0_ n1_ n2_ n3_; (try clear hb); (try clear hb2); (try clear hk); (try clear hi); refine hK.out _ _ ⟨bc BK562 0, bc BK562 1, bc BK562 2, bc BK564 0, bc BK564 1⟩ (fun hHeld => ?_); clear hK K; refine norm_ (a' := ?_) ?_ ?_; rotate_left
              ·show Act.put _ (some 73) _ = _; simp only [Act.put, List.setIfInBounds_toArray, List.set_cons_zero, List.set_cons_succ, i64_w, i32_w]; rfl
              refine last_ (i := 10) (N := none) #[true, true, true, true, true, true, true, true, true, true, true] rfl rfl (one_of HT_.out (by kernel_rfl)) (by decide) (fun K hK => ?_); have hs49 : w48.cell? ⟨gb562, 0, none⟩ = some (.bool x563000_3) := bc BK562 0; have hfs49 := blk_frozen BK562.out 0; have hns49_0 := NB553_562.out; have hns49_2 := NB564_562.out; have hms49_0 := NB562_553.out; have hms49_2 := NB562_564.out; have hs50 : w48.cell? ⟨gb562, 1, none⟩ = some (.int .u64 x563001_3) := bc BK562 1; have hfs50 := blk_frozen BK562.out 1; have hns50_0 := NB553_562.out; have hns50_2 := NB564_562.out; have hms50_0 := NB562_553.out; have hms50_2 := NB562_564.out; have hs51 : w48.cell? ⟨gb562, 2, none⟩ = some (.int .u64 x563002_3) := bc BK562 2; have hfs51 := blk_frozen BK562.out 2; have hns51_0 := NB553_562.out; have hns51_2 := NB564_562.out; have hms51_0 := NB562_553.out; have hms51_2 := NB562_564.out; refine skip_ (w1 := ?_) (by rfl) rfl ?_ ?_; rotate_left
              ·(go_simp); rfl
              refine hK.out _ _ ?_; clear hK K; refine done_ (done_of HT_.out (by kernel_rfl)) ?_; try go_wp2
              go_roundg k3
              case measure => have := HK1.out; have := HK2.out; have := HK3.out; omega
              case rel => exact ⟨(wrap64 (x60_3 + 1)), (t568), (t569), (t570), (by first | rfl | (simp; done) | (simp [*]; done)), H', ⟨by have := HK1.out; have := HK2.out; have := HK3.out; omega⟩, ⟨bq BK553⟩, ⟨by refine pe ?_; refine blk_put (cs := #[.bool t568, .int .u64 t569, .int .u64 x563002_3]) ?_ 2 _ rfl; refine pe ?_; refine blk_put (cs := #[.bool t568, .int .u64 x563001_3, .int .u64 x563002_3]) ?_ 1 _ rfl; refine pe ?_; refine blk_put (cs := #[.bool x563000_3, .int .u64 x563001_3, .int .u64 x563002_3]) ?_ 0 _ rfl; refine pe ?_; exact BK562.out⟩, ⟨bw HB⟩⟩
            ·rw [if_neg c37] at H; exact absurd H (by simp)
           ·rw [if_neg c36] at H; exact absurd H (by simp)
          ·rw [if_neg c35] at H; have c35b0 : decide (x60_3 < (l0.length : Int)) = false := decide_eq_false c35; clear c35; replace H := Option.bind_eq_some_iff.mp H; obtain ⟨⟨t571, t572, t573⟩, A520, H⟩ := H; (try dsimp only at H); have A52 := Aside0.mk A520; clear A520; simp only [Option.some.injEq, Prod.mk.injEq] at H; obtain ⟨rfl, rfl, rfl⟩ := H; obtain ⟨hnb53, hnc53⟩ := n2 NB562_553; have hcz54_0 : wr.cell? ⟨gb562, 0, none⟩ = some (.bool x563000_3) := bc BK562 0; have hcz54_1 : wr.cell? ⟨gb562, 1, none⟩ = some (.int .u64 x563001_3) := bc BK562 1; have hcz54_2 : wr.cell? ⟨gb562, 2, none⟩ = some (.int .u64 x563002_3) := bc BK562 2; have hfz54_0 := blk_frozen BK562.out 0; have hfz54_1 := blk_frozen BK562.out 1; have hfz54_2 := blk_frozen BK562.out 2; (go_wp2_with (first | ((with_reducible refine gate_callee (f := 48) rfl ?_); refine gl (some 77) Try.func48 #[.agg #[.bool x563000_3, .int .u64 x563001_3, .int .u64 x563002_3], .int .u64 x6_2] ?_; (with_reducible refine (ratio_lowest.calls k3 x563000_3 x563001_3 x563002_3 x6_2 t571 t572 t573 _ A52.out).mono ?_); rintro e w55 ⟨rfl, hb⟩; refine ⟨_, rfl, ?_⟩; replace BK553 := kb BK553 hb; replace BK562 := kb BK562 hb; replace HB := wb HB hb; (try clear hb); (try clear hb2); (try clear hk); (try clear hi); have hcz56_0 : w55.cell? ⟨gb553, 0, none⟩ = some (.int .i64 x554000_2) := bc BK553 0; have hcz56_1 : w55.cell? ⟨gb553, 1, none⟩ = some (.int .i64 x554001_2) := bc BK553 1; have hfz56_0 := blk_frozen BK553.out 0; have hfz56_1 := blk_frozen BK553.out 1))); refine bodyPost_ret (results_ct rfl _ _ gb553 35 #[.int .i64 t571, .int .i64 t572] (0, 0) _ rfl (by refine pe ?_; refine blk_put (cs := #[.int .i64 t571, .int .i64 x554001_2]) ?_ 1 _ rfl; refine pe ?_; refine blk_put (cs := #[.int .i64 x554000_2, .int .i64 x554001_2]) ?_ 0 _ rfl; refine pe ?_; exact BK553.out) Try.underlying35 rfl (by kernel_rfl)) rfl ?_; exact ⟨by first | rfl | (simp [errW_none, errW_some] <;> rfl) | (simp [*, errW_none, errW_some] <;> rfl), bw HB⟩

end Go.Proofs.Ytcbohbeipgcfhaa.G

-- Printed by gp.py (a program of this session's own, over the kit's printer) out of the translation; Lean checks it.
namespace Go.Proofs.Ytcbohbeipgcfhaa.G
open Go.Proofs.Ytcbohbeipgcfhaa.Given Go.Proofs.Ytcbohbeipgcfhaa.Short
open Go.RowKit Go.Proofs.YtcbohbeipgcfhaaW.PrintWords Go.Proofs.YtcbohbeipgcfhaaW.PrintLast Go.Proofs.YtcbohbeipgcfhaaW.PrintMore
attribute [local go_sem] max2_int min2_int max_two min_two max_three min_three max_four min_four   -- for this text's walks alone
set_option linter.unusedVariables false
set_option linter.unusedSimpArgs false

/-! ### tp_Order: function 38 -/
def tp_Order.l0 : Nat → Int → List Int → Int → List Int → Int → Option (List Int × Int)
 | 0, _, _, _, _, _ => none
 | k + 1, x1, x5, x6, x1000, x1001 => if x6 < x1 then ((tp_Next.f x1000 x1001 (wrap64 (x6 + 1))).bind fun bt630 => (if 0 ≤ bt630.1 then (if bt630.1 ≤ (x5.length : Int) then ((some (x5.take (bt630.1 : Int).toNat : List Int)).bind fun y632 => (if ([] : List Int).length + y632.length < 17592186044416 then ((some (([] : List Int) ++ y632 : List Int)).bind fun y636 => (if y636.length < 17592186044416 then ((some (y636 ++ [x6] : List Int)).bind fun y639 => ((some (x5.drop (bt630.1 : Int).toNat : List Int)).bind fun y642 => (if y639.length + y642.length < 17592186044416 then (tp_Order.l0 k x1 (y639 ++ y642) (wrap64 (x6 + 1)) x1000 bt630.2) else (none)))) else (none))) else (none))) else (none)) else (none))) else (some (x5, x1001))
def tp_Order.f (k : Nat) (s0_0 : List Int) (s0_1 : Int) (a1 : Int) : Option (List Int × Int) := tp_Order.l0 k a1 ([] : List Int) 0 s0_0 s0_1
theorem tp_Order.mono_l : ∀ k, (∀ y0 y1 y2 y3 y4, LeO (tp_Order.l0 k y0 y1 y2 y3 y4) (tp_Order.l0 (k + 1) y0 y1 y2 y3 y4))
 | 0 => fun _ _ _ _ _ r h => by simp [tp_Order.l0] at h
 | k + 1 => by
  have ih0 := tp_Order.mono_l k
  ·intro y0 y1 y2 y3 y4; unfold tp_Order.l0
   repeat' first
   | (with_reducible exact ih0 _ _ _ _ _)
   | (with_reducible exact LeO.refl _)
   | (with_reducible exact LeO.none _)
   | (with_reducible refine LeO.ite ?_ ?_)
   | (with_reducible refine LeO.bind ?_ (fun _ => ?_))
   | exact ih0 _ _ _ _ _
   | exact LeO.none _
   | refine LeO.ite ?_ ?_
   | refine LeO.bind ?_ (fun _ => ?_)
theorem tp_Order.mono : ∀ a0 a1 a2 k, LeO (tp_Order.f k a0 a1 a2) (tp_Order.f (k + 1) a0 a1 a2) := by
 intro a0 a1 a2 k; have ih0 := tp_Order.mono_l k; unfold tp_Order.f
 repeat' first
   | (with_reducible exact ih0 _ _ _ _ _)
   | (with_reducible exact LeO.refl _)
   | (with_reducible exact LeO.none _)
   | (with_reducible refine LeO.ite ?_ ?_)
   | (with_reducible refine LeO.bind ?_ (fun _ => ?_))
   | exact ih0 _ _ _ _ _
   | exact LeO.none _
   | refine LeO.ite ?_ ?_
   | refine LeO.bind ?_ (fun _ => ?_)
set_option maxHeartbeats 8000000 in
set_option maxRecDepth 100000 in
theorem tp_Order.calls (k : Nat) (g : Nat) (s0_0 : List Int) (s0_1 : Int) (a1 : Int) (r1 : List Int) (r2 : Int) (w0 w : World) (hI : IsS53 w0 w g s0_0 s0_1) (hB : Below w0.heap.size w0 w) (h : tp_Order.f k s0_0 s0_1 a1 = some (r1, r2)) :
  Calls Try.prog 38 #[.pointer (some ⟨g, 0, none⟩), .int .i64 a1] w fun e w' => ∃ v0_ : Value, e = .returned (v0_) ∧ Kd.R (Kd.int .i64) 3 w' w.heap.size (fun _ => True) v0_ r1 ∧ IsS53 w0 w' g s0_0 r2 ∧ Below w0.heap.size w0 w' ∧ KeepBut w w' g none := by
 have HI0 := Aside0.mk hI; have HK := Aside0.mk (KeepBut.refl w g none); have HL := Aside0.mk hB.size; clear hI; have HW0 := Aside0.mk hB.size; have HB := Aside0.mk hB; clear hB; have H : (tp_Order.l0 k a1 ([] : List Int) 0 s0_0 s0_1) = some (r1, r2) := h; clear h; have H' := Aside0.mk H; clear H; (go_enter Try.func38, Try.ntmps38); (go_wp2); (try simp only [Act.put, List.setIfInBounds_toArray, List.set_cons_zero, List.set_cons_succ])
 go_loopg [5, 6] k (fun kq v5 v6 w' => ∃ (x5_1 : List Int) (x6_1 : Int) (x1001_1 : Int), v6 = .int .i64 x6_1 ∧ Aside0 (tp_Order.l0 kq a1 x5_1 x6_1 s0_0 x1001_1 = some (r1, r2)) ∧ Aside0 (kq ≤ k) ∧ Aside0 (Kd.R (Kd.int .i64) 3 w' w.heap.size (fun _ => True) v5 x5_1) ∧ Aside0 (IsS53 w0 w' g s0_0 x1001_1) ∧ Aside0 (KeepBut w w' g none) ∧ Aside0 (Below w0.heap.size w0 w'))
 case atStart => exact ⟨(([] : List Int)), (0), (s0_1), (by first | rfl | (simp; done) | (simp [*]; done)), H', ⟨Nat.le_refl _⟩, ⟨by first | exact Kd.R_nil _ _ _ _ _ | exact Kd.N_nil _ _ _ _ _ | exact Kd.V_nil _ _ _ _ _ | exact Kd.Q_nil _ _ _ _ _ | exact Kd.S_nil _ _ _ _ _⟩, ⟨by repeat (first | (with_reducible first | exact HI0.out | apply IsS53.alloc | apply IsS53.drewN | apply IsS53.drew | apply IsS53.set_1) | exact HI0.out)⟩, ⟨by repeat (first | (with_reducible first | exact HK.out | apply KeepBut.set_ | apply keep_drewN | apply keep_drew | apply keep_alloc) | exact HK.out)⟩, ⟨by repeat (first | (with_reducible first | exact HB.out | apply below_alloc | apply pw_below_drewN | apply below_drew1 | refine below_set ?_ (IsS53.ge HI0.out)) | exact HB.out)⟩⟩
 case round =>
  clear H'; (try clear p2); obtain ⟨x5_1, x6_1, x1001_1, rfl, HA, HK1, HO_5, HI0, HK, HB⟩ := hrel
  cases gk with
  | zero => exact absurd HA.out (by simp [tp_Order.l0])
  | succ k1 =>
   have H := HA.out; clear HA; simp only [tp_Order.l0] at H
   by_cases c3 : x6_1 < a1
   ·rw [if_pos c3] at H; have c3b0 : decide (x6_1 < a1) = true := decide_eq_true c3; clear c3; replace H := Option.bind_eq_some_iff.mp H; obtain ⟨⟨t630, t631⟩, A40, H⟩ := H; (try dsimp only at H); have A4 := Aside0.mk A40; clear A40
    by_cases c5 : 0 ≤ t630
    ·rw [if_pos c5] at H; have c5b0 := eq_true c5; have c5b1 : decide (0 ≤ t630) = true := decide_eq_true c5; clear c5
     by_cases c6 : t630 ≤ (x5_1.length : Int)
     ·rw [if_pos c6] at H; have c6b0 := eq_true c6; have c6b1 : decide (t630 ≤ (x5_1.length : Int)) = true := decide_eq_true c6; clear c6; obtain ⟨y632, hy632⟩ : ∃ y_ : List Int, y_ = (x5_1.take (t630 : Int).toNat) := ⟨_, rfl⟩; (replace H : (if ([] : List Int).length + y632.length < 17592186044416 then ((some (([] : List Int) ++ y632 : List Int)).bind fun y636 => (if y636.length < 17592186044416 then ((some (y636 ++ [x6_1] : List Int)).bind fun y639 => ((some (x5_1.drop (t630 : Int).toNat : List Int)).bind fun y642 => (if y639.length + y642.length < 17592186044416 then (tp_Order.l0 k1 a1 (y639 ++ y642) (wrap64 (x6_1 + 1)) s0_0 t631) else (none)))) else (none))) else (none)) = some (r1, r2) := by first | (rw [hy632]; with_reducible exact H) | (have H2_ := (Option.bind_some _ _).symm.trans H; rw [hy632]; with_reducible exact H2_) | (have H2_ := (Option.bind_some _ _).symm.trans H; with_reducible exact H2_) | with_reducible exact H | (rw [hy632]; exact H) | exact H); have Ny632 := Aside0.mk hy632; clear hy632
      by_cases c7 : ([] : List Int).length + y632.length < 17592186044416
      ·rw [if_pos c7] at H; have LMc7 := Aside0.mk c7; clear c7; obtain ⟨y636, hy636⟩ : ∃ y_ : List Int, y_ = (([] : List Int) ++ y632) := ⟨_, rfl⟩; (replace H : (if y636.length < 17592186044416 then ((some (y636 ++ [x6_1] : List Int)).bind fun y639 => ((some (x5_1.drop (t630 : Int).toNat : List Int)).bind fun y642 => (if y639.length + y642.length < 17592186044416 then (tp_Order.l0 k1 a1 (y639 ++ y642) (wrap64 (x6_1 + 1)) s0_0 t631) else (none)))) else (none)) = some (r1, r2) := by first | (rw [hy636]; with_reducible exact H) | (have H2_ := (Option.bind_some _ _).symm.trans H; rw [hy636]; with_reducible exact H2_) | (have H2_ := (Option.bind_some _ _).symm.trans H; with_reducible exact H2_) | with_reducible exact H | (rw [hy636]; exact H) | exact H); have Ny636 := Aside0.mk hy636; clear hy636
       by_cases c8 : y636.length < 17592186044416
       ·rw [if_pos c8] at H; have LMc8 := Aside0.mk c8; clear c8; obtain ⟨y639, hy639⟩ : ∃ y_ : List Int, y_ = (y636 ++ [x6_1]) := ⟨_, rfl⟩; (replace H : ((some (x5_1.drop (t630 : Int).toNat : List Int)).bind fun y642 => (if y639.length + y642.length < 17592186044416 then (tp_Order.l0 k1 a1 (y639 ++ y642) (wrap64 (x6_1 + 1)) s0_0 t631) else (none))) = some (r1, r2) := by first | (rw [hy639]; with_reducible exact H) | (have H2_ := (Option.bind_some _ _).symm.trans H; rw [hy639]; with_reducible exact H2_) | (have H2_ := (Option.bind_some _ _).symm.trans H; with_reducible exact H2_) | with_reducible exact H | (rw [hy639]; exact H) | exact H); have Ny639 := Aside0.mk hy639; clear hy639; have c9b0 := eq_true (of_decide_eq_true (by first | (with_reducible assumption) | assumption) : 0 ≤ t630); have c10b0 := eq_true (of_decide_eq_true (by first | (with_reducible assumption) | assumption) : t630 ≤ (x5_1.length : Int)); obtain ⟨y642, hy642⟩ : ∃ y_ : List Int, y_ = (x5_1.drop (t630 : Int).toNat) := ⟨_, rfl⟩; (replace H : (if y639.length + y642.length < 17592186044416 then (tp_Order.l0 k1 a1 (y639 ++ y642) (wrap64 (x6_1 + 1)) s0_0 t631) else (none)) = some (r1, r2) := by first | (rw [hy642]; with_reducible exact H) | (have H2_ := (Option.bind_some _ _).symm.trans H; rw [hy642]; with_reducible exact H2_) | (have H2_ := (Option.bind_some _ _).symm.trans H; with_reducible exact H2_) | with_reducible exact H | (rw [hy642]; exact H) | exact H); have Ny642 := Aside0.mk hy642; clear hy642
        by_cases c11 : y639.length + y642.length < 17592186044416
        ·rw [if_pos c11] at H; have LMc11 := Aside0.mk c11; clear c11; obtain ⟨y646, hy646⟩ : ∃ y_ : List Int, y_ = (y639 ++ y642) := ⟨_, rfl⟩; (replace H : (tp_Order.l0 k1 a1 y646 (wrap64 (x6_1 + 1)) s0_0 t631) = some (r1, r2) := by first | (rw [hy646]; with_reducible exact H) | (have H2_ := (Option.bind_some _ _).symm.trans H; rw [hy646]; with_reducible exact H2_) | (have H2_ := (Option.bind_some _ _).symm.trans H; with_reducible exact H2_) | with_reducible exact H | (rw [hy646]; exact H) | exact H); have Ny646 := Aside0.mk hy646; clear hy646; have H' := Aside0.mk H; clear H; go_wp2_with (first | ((with_reducible refine gate_callee (f := 61) rfl ?_); refine gl (some 17) Try.func61 #[.pointer (some ⟨g, 0, none⟩), .int .i64 (wrap64 (x6_1 + 1))] ?_; (with_reducible refine (tp_Next.calls g s0_0 x1001_1 (wrap64 (x6_1 + 1)) t630 t631 w0 _ ?side1 ?side2 A4.out).mono ?_); (case side1 => repeat (first | (with_reducible first | exact HI0.out | apply IsS53.alloc | apply IsS53.drewN | apply IsS53.drew | apply IsS53.set_1) | exact HI0.out)); (case side2 => repeat (first | (with_reducible first | exact HB.out | apply below_alloc | apply pw_below_drewN | apply below_drew1 | refine below_set ?_ (IsS53.ge HI0.out)) | exact HB.out)); rintro e w12 ⟨rfl, hi, hb, hk⟩; refine ⟨_, rfl, ?_⟩; replace HO_5 := Aside0.mk (Kd.R_mono (Kd.R_keep (IsS53.apart (show IsS53 w0 _ g s0_0 x1001_1 from by repeat (first | (with_reducible first | exact HI0.out | apply IsS53.alloc | apply IsS53.drewN | apply IsS53.drew | apply IsS53.set_1) | exact HI0.out)) (by (with_reducible repeat (first | apply Kd.R_alloc | apply Kd.R_drewN | apply Kd.R_drew)); exact HO_5.out) (by decide)) hk (fun _ h => h.2)) (fun _ h => h.1)); replace HK := Aside0.mk (KeepBut.trans (by repeat (first | (with_reducible first | exact HK.out | apply KeepBut.set_ | apply keep_drewN | apply keep_drew | apply keep_alloc) | exact HK.out)) hk (.inl rfl)); replace HB := Aside0.mk (hb); replace HI0 := Aside0.mk (hi); (try clear hb); (try clear hb2); (try clear hk); (try clear hi); obtain ⟨Ao14, co14, eo14⟩ := Kd.R_slice HO_5.out; subst eo14; have q13 : (t630 : Int) ≤ ((x5_1.length : Int) : Int) := of_decide_eq_true (by first | (with_reducible assumption) | assumption); obtain ⟨i013, hi013, _, hsz13, _⟩ := info_parts info3; have hroom13 : x5_1.length ≤ co14 := (Kd.R_reads' HO_5.out).2.1; have hC13 : Kd.C (Kd.int .i64) _ Ao14 x5_1.length x5_1 := (Kd.R_reads' HO_5.out).2.2; have hcut13 := cut_to (P := Try.prog) 22 3 .i64 Try.underlying22 hi013 Ao14 x5_1.length co14 t630 (of_decide_eq_true (by first | (with_reducible assumption) | assumption)) q13 hroom13; have hr13 := Kd.C_take (m := (t630 : Int).toNat) hC13 (by omega); have hy13 : y632.length = (t630 : Int).toNat := (by rw [Ny632.out, List.length_take]; omega); rw [← Ny632.out] at hr13; rw [← hy13] at hcut13; have HR635 := Aside0.mk hr13; have HC635 := Aside0.mk (show y632.length ≤ co14 from by omega); clear hr13 hC13 hroom13 hi013 hsz13; have KY13 := Aside0.mk hy13; clear hy13; have KL13 := Aside0.mk (show (t630 : Int).toNat ≤ x5_1.length from by omega); replace q13 := eq_true q13) | ((with_reducible refine gate_builtin (b := .append) (xs := #[.tmp 18, .tmp 21]) rfl ?_); at_builtin; refine Kd.R_append_rows (Kd.int .i64) w.heap.size rfl (.tmp 18) (.tmp 21) 22 3 (.int .i64 0) 8 rfl Try.underlying22 info3 rfl (by decide) (by omega) (.slice none 0 0) ([] : List Int) y632 _ _ _ (fun k_ => some k_ ≠ (.slice Ao14 x5_1.length co14 : Value).ownBlock) (fun _ => False) rfl rfl ?aO ?aR (fun _ _ h => h) (fun _ h => h.elim) ?aF (Below.refl _ _) ?aS ?aL ?_; (case aR => repeat (first | exact (by repeat (first | (with_reducible exact HR635.out) | (with_reducible refine Kd.C_alloc ?_ _) | (with_reducible refine Kd.C_drewN ?_ _) | (with_reducible refine Kd.C_drew ?_) | exact HR635.out)) | (with_reducible refine Kd.C_alloc ?_ _) | (with_reducible refine Kd.C_drewN ?_ _) | (with_reducible refine Kd.C_drew ?_))); (case aF => exact (fun k_ hk => Kd.fresh' (Kd.R_lt (by (with_reducible repeat (first | apply Kd.R_alloc | apply Kd.R_drewN | apply Kd.R_drew)); exact HO_5.out)) k_ hk)); (case aO => exact ((Kd.R_nil _ _ _ _ (fun k_ => some k_ ≠ (.slice Ao14 x5_1.length co14 : Value).ownBlock)))); (case aS => exact (keep_size (w := w) (g := g) (row := none) (by repeat (first | (with_reducible first | exact HK.out | apply KeepBut.set_ | apply keep_drewN | apply keep_drew | apply keep_alloc) | exact HK.out)))); (case aL => have := LMc7.out; omega); intro v637 w15 ho hb hg hat; rw [← Ny636.out] at ho; have HO638 := Aside0.mk (ho); replace HO_5 := Aside0.mk (Kd.R_after (Kd.R_apart_nil (by (with_reducible repeat (first | apply Kd.R_alloc | apply Kd.R_drewN | apply Kd.R_drew)); exact HO_5.out)) hg hat); replace HI0 := Aside0.mk (IsS53.grown (by repeat (first | (with_reducible first | exact HI0.out | apply IsS53.alloc | apply IsS53.drewN | apply IsS53.drew | apply IsS53.set_1) | exact HI0.out)) hg (by simp [Value.ownBlock])); replace HB := Aside0.mk (below_weaken (by repeat (first | (with_reducible first | exact HB.out | apply below_alloc | apply pw_below_drewN | apply below_drew1 | refine below_set ?_ (IsS53.ge HI0.out)) | exact HB.out)) HL.out hb); replace HK := Aside0.mk (KeepBut.trans (by repeat (first | (with_reducible first | exact HK.out | apply KeepBut.set_ | apply keep_drewN | apply keep_drew | apply keep_alloc) | exact HK.out)) (KeepBut.of_grown hg g) (.inl (by simp [Value.ownBlock]))); replace HR635 := Aside0.mk ((show Kd.C (Kd.int .i64) w15 Ao14 y632.length y632 from by rw [Ny632.out]; exact Kd.C_take (m := (t630 : Int).toNat) ((Kd.R_reads' HO_5.out).2.2) KL13.out)); clear ho hb hg hat) | ((with_reducible refine gate_builtin (b := .append) (xs := #[.tmp 23, .tmp 25]) rfl ?_); at_builtin; refine Kd.R_append (Kd.int .i64) w.heap.size rfl (.tmp 23) (.tmp 25) 22 3 (.int .i64 0) 8 rfl Try.underlying22 info3 rfl (by decide) (by omega) v637 y636 x6_1 [.int .i64 x6_1] (fun k_ => some k_ ≠ (.slice Ao14 x5_1.length co14 : Value).ownBlock) (fun _ => False) rfl rfl ?aP (fun _ hk => hk.elim) ?aF ?aO (Below.refl _ _) ?aS ?aL ?_; (case aP => exact rfl); (case aF => exact (fun k_ hk => Kd.fresh' (Kd.R_lt (by (with_reducible repeat (first | apply Kd.R_alloc | apply Kd.R_drewN | apply Kd.R_drew)); exact HO_5.out)) k_ hk)); (case aO => exact (by (with_reducible repeat (first | apply Kd.R_alloc | apply Kd.R_drewN | apply Kd.R_drew)); exact HO638.out)); (case aS => exact (keep_size (w := w) (g := g) (row := none) (by repeat (first | (with_reducible first | exact HK.out | apply KeepBut.set_ | apply keep_drewN | apply keep_drew | apply keep_alloc) | exact HK.out)))); (case aL => have := LMc8.out; omega); intro v640 w16 ho hb hg hat; rw [← Ny639.out] at ho; have HO641 := Aside0.mk (ho); replace HO_5 := Aside0.mk (Kd.R_after (ok := (fun _ => True)) (by (with_reducible repeat (first | apply Kd.R_alloc | apply Kd.R_drewN | apply Kd.R_drew)); exact HO_5.out) hg hat); replace HI0 := Aside0.mk (IsS53.grown (by repeat (first | (with_reducible first | exact HI0.out | apply IsS53.alloc | apply IsS53.drewN | apply IsS53.drew | apply IsS53.set_1) | exact HI0.out)) hg (IsS53.own_ne HI0.out HO638.out (by decide))); replace HB := Aside0.mk (below_weaken (by repeat (first | (with_reducible first | exact HB.out | apply below_alloc | apply pw_below_drewN | apply below_drew1 | refine below_set ?_ (IsS53.ge HI0.out)) | exact HB.out)) HL.out hb); replace HK := Aside0.mk (KeepBut.trans (by repeat (first | (with_reducible first | exact HK.out | apply KeepBut.set_ | apply keep_drewN | apply keep_drew | apply keep_alloc) | exact HK.out)) (KeepBut.of_grown hg g) (Kd.R_base2 HO638.out)); replace HR635 := Aside0.mk ((show Kd.C (Kd.int .i64) w16 Ao14 y632.length y632 from by rw [Ny632.out]; exact Kd.C_take (m := (t630 : Int).toNat) ((Kd.R_reads' HO_5.out).2.2) KL13.out)); clear HO638; clear ho hb hg hat; have q17 : (t630 : Int) ≤ ((x5_1.length : Int) : Int) := of_decide_eq_true (by first | (with_reducible assumption) | assumption); obtain ⟨i017, hi017, _, hsz17, _⟩ := info_parts info3; have hroom17 : x5_1.length ≤ co14 := (Kd.R_reads' HO_5.out).2.1; have hC17 : Kd.C (Kd.int .i64) _ Ao14 x5_1.length x5_1 := (Kd.R_reads' HO_5.out).2.2; have q017 : (0 : Int) ≤ (t630 : Int) := of_decide_eq_true (by first | (with_reducible assumption) | assumption); have hcut17 := cut_from (P := Try.prog) 22 3 .i64 Try.underlying22 hi017 1 hsz17 Ao14 x5_1.length co14 t630 q017 q17; have hr17 := Kd.C_drop (m := (t630 : Int).toNat) (c := co14) hC17 (by omega) hroom17; obtain ⟨A17, hA17⟩ : ∃ A1, A1 = (if co14 = (t630 : Int).toNat then Ao14 else (Ao14 : Option Addr).map (·.add ((t630 : Int).toNat * 1))) := ⟨_, rfl⟩; obtain ⟨c17, hc17⟩ : ∃ c1, c1 = co14 - (t630 : Int).toNat := ⟨_, rfl⟩; have hy17 : y642.length = x5_1.length - (t630 : Int).toNat := (by rw [Ny642.out, List.length_drop] <;> omega); rw [show (x5_1).drop (t630 : Int).toNat = y642 from Ny642.out.symm] at hr17; replace hr17 : Kd.C (Kd.int .i64) _ A17 y642.length y642 := (by rw [hA17]; exact hr17); rw [← hy17, ← hA17, ← hc17] at hcut17; have HR645 := Aside0.mk hr17; have HC645 := Aside0.mk (show y642.length ≤ c17 from by rw [hy17, hc17]; exact Nat.sub_le_sub_right hroom17 _); clear hr17 hC17 hroom17 hi017 hsz17 hc17; have KY17 := Aside0.mk hy17; have KA17 := Aside0.mk hA17; clear hy17 hA17; have KL17 := Aside0.mk (show (t630 : Int).toNat ≤ x5_1.length from by omega); replace q17 := eq_true q17) | ((with_reducible refine gate_builtin (b := .append) (xs := #[.tmp 27, .tmp 30]) rfl ?_); at_builtin; refine Kd.R_append_rows (Kd.int .i64) w.heap.size rfl (.tmp 27) (.tmp 30) 22 3 (.int .i64 0) 8 rfl Try.underlying22 info3 rfl (by decide) (by omega) v640 y639 y642 _ _ _ (fun k_ => some k_ ≠ (.slice Ao14 x5_1.length co14 : Value).ownBlock) (fun _ => False) rfl rfl ?aO ?aR (fun _ _ h => h) (fun _ h => h.elim) ?aF (Below.refl _ _) ?aS ?aL ?_; (case aR => repeat (first | exact (by repeat (first | (with_reducible exact HR645.out) | (with_reducible refine Kd.C_alloc ?_ _) | (with_reducible refine Kd.C_drewN ?_ _) | (with_reducible refine Kd.C_drew ?_) | exact HR645.out)) | (with_reducible refine Kd.C_alloc ?_ _) | (with_reducible refine Kd.C_drewN ?_ _) | (with_reducible refine Kd.C_drew ?_))); (case aF => exact (fun k_ hk => Kd.fresh' (Kd.R_lt (by (with_reducible repeat (first | apply Kd.R_alloc | apply Kd.R_drewN | apply Kd.R_drew)); exact HO_5.out)) k_ hk)); (case aO => exact (by (with_reducible repeat (first | apply Kd.R_alloc | apply Kd.R_drewN | apply Kd.R_drew)); exact HO641.out)); (case aS => exact (keep_size (w := w) (g := g) (row := none) (by repeat (first | (with_reducible first | exact HK.out | apply KeepBut.set_ | apply keep_drewN | apply keep_drew | apply keep_alloc) | exact HK.out)))); (case aL => have := LMc11.out; omega); intro v647 w18 ho hb hg hat; rw [← Ny646.out] at ho; have HO648 := Aside0.mk (ho); replace HO_5 := Aside0.mk (Kd.R_after (ok := (fun _ => True)) (by (with_reducible repeat (first | apply Kd.R_alloc | apply Kd.R_drewN | apply Kd.R_drew)); exact HO_5.out) hg hat); replace HI0 := Aside0.mk (IsS53.grown (by repeat (first | (with_reducible first | exact HI0.out | apply IsS53.alloc | apply IsS53.drewN | apply IsS53.drew | apply IsS53.set_1) | exact HI0.out)) hg (IsS53.own_ne HI0.out HO641.out (by decide))); replace HB := Aside0.mk (below_weaken (by repeat (first | (with_reducible first | exact HB.out | apply below_alloc | apply pw_below_drewN | apply below_drew1 | refine below_set ?_ (IsS53.ge HI0.out)) | exact HB.out)) HL.out hb); replace HK := Aside0.mk (KeepBut.trans (by repeat (first | (with_reducible first | exact HK.out | apply KeepBut.set_ | apply keep_drewN | apply keep_drew | apply keep_alloc) | exact HK.out)) (KeepBut.of_grown hg g) (Kd.R_base2 HO641.out)); replace HR635 := Aside0.mk ((show Kd.C (Kd.int .i64) w18 Ao14 y632.length y632 from by rw [Ny632.out]; exact Kd.C_take (m := (t630 : Int).toNat) ((Kd.R_reads' HO_5.out).2.2) KL13.out)); replace HR645 := Aside0.mk ((show Kd.C (Kd.int .i64) w18 A17 y642.length y642 from by rw [Ny642.out, KA17.out]; exact Kd.C_drop (m := (t630 : Int).toNat) (c := co14) ((Kd.R_reads' HO_5.out).2.2) KL17.out ((Kd.R_reads' HO_5.out).2.1))); clear HO641; clear ho hb hg hat))
         go_roundg k1
         case measure => have := HK1.out; omega
         case rel => exact ⟨(y646), (wrap64 (x6_1 + 1)), (t631), (by first | rfl | (simp; done) | (simp [*]; done)), H', ⟨by have := HK1.out; omega⟩, ⟨by (with_reducible repeat (first | apply Kd.R_alloc | apply Kd.R_drewN | apply Kd.R_drew)); exact Kd.R_mono HO648.out (fun _ hk => trivial)⟩, ⟨by repeat (first | (with_reducible first | exact HI0.out | apply IsS53.alloc | apply IsS53.drewN | apply IsS53.drew | apply IsS53.set_1) | exact HI0.out)⟩, ⟨by repeat (first | (with_reducible first | exact HK.out | apply KeepBut.set_ | apply keep_drewN | apply keep_drew | apply keep_alloc) | exact HK.out)⟩, ⟨by repeat (first | (with_reducible first | exact HB.out | apply below_alloc | apply pw_below_drewN | apply below_drew1 | refine below_set ?_ (IsS53.ge HI0.out)) | exact HB.out)⟩⟩
        ·rw [if_neg c11] at H; exact absurd H (by simp)
       ·rw [if_neg c8] at H; exact absurd H (by simp)
      ·rw [if_neg c7] at H; exact absurd H (by simp)
     ·rw [if_neg c6] at H; exact absurd H (by simp)
    ·rw [if_neg c5] at H; exact absurd H (by simp)
   ·rw [if_neg c3] at H; have c3b0 : decide (x6_1 < a1) = false := decide_eq_false c3; clear c3; simp only [Option.some.injEq, Prod.mk.injEq] at H; obtain ⟨rfl, rfl⟩ := H; (go_wp2); (go_ret); exact ⟨_, by first | rfl | (simp [errW_none, errW_some] <;> rfl) | (simp [*, errW_none, errW_some] <;> rfl), by (with_reducible repeat (first | apply Kd.R_alloc | apply Kd.R_drewN | apply Kd.R_drew)); exact HO_5.out, by repeat (first | (with_reducible first | exact HI0.out | apply IsS53.alloc | apply IsS53.drewN | apply IsS53.drew | apply IsS53.set_1) | exact HI0.out), by repeat (first | (with_reducible first | exact HB.out | apply below_alloc | apply pw_below_drewN | apply below_drew1 | refine below_set ?_ (IsS53.ge HI0.out)) | exact HB.out), by repeat (first | (with_reducible first | exact HK.out | apply KeepBut.set_ | apply keep_drewN | apply keep_drew | apply keep_alloc) | exact HK.out)⟩

end Go.Proofs.Ytcbohbeipgcfhaa.G
