/- Texts of this claim laid together: Gf32. -/
import Derived.Test.YtcbohbeipgcfhaaG0
import Derived.Test.YtcbohbeipgcfhaaGe1
import Derived.Test.YtcbohbeipgcfhaaZAdn9
import Derived.Test.YtcbohbeipgcfhaaZAdn4
-- Printed by gp.py (a program of this session's own, over the kit's printer) out of the translation; Lean checks it.
namespace Go.Proofs.Ytcbohbeipgcfhaa.G
open Go.Proofs.Ytcbohbeipgcfhaa.Given Go.Proofs.Ytcbohbeipgcfhaa.Short
open Go.RowKit Go.Proofs.YtcbohbeipgcfhaaW.PrintWords Go.Proofs.YtcbohbeipgcfhaaW.PrintLast Go.Proofs.YtcbohbeipgcfhaaW.PrintMore
attribute [local go_sem] max2_int min2_int max_two min_two max_three min_three max_four min_four   -- for this text's walks alone
set_option linter.unusedVariables false
set_option linter.unusedSimpArgs false

attribute [local go_sem high] eqA61
/-! ### awardingbodyref01_Compare: function 32 -/
def awardingbodyref01_Compare.j0 : Nat → Bool → Int → Int → Int → Int → Option (Int)
 | 0, _, _, _, _, _ => none
 | k + 1, x14, x476000, x476001, x477000, x477001 => if x14 = true then (some 0) else ((awardingbodyref01_Size.f x476000).bind fun t479 => ((awardingbodyref01_Size.f x477001).bind fun t480 => ((awardingbodyref01_Product.f t479 t480).bind fun bt481 => ((awardingbodyref01_Size.f x477000).bind fun t483 => ((awardingbodyref01_Size.f x476001).bind fun t484 => ((awardingbodyref01_Product.f t483 t484).bind fun bt485 => ((awardingbodyref01_total.f k (decide (x476000 < 0)) bt481.1 bt481.2 (decide (x477000 > 0)) bt485.1 bt485.2).bind fun bt487 => (if (bt487.2.1 == 0 && (bt487.2.2 == 0)) = true then (some 0) else (if bt487.1 = true then (some (-1)) else (some 1))))))))))
def awardingbodyref01_Compare.f (k : Nat) (a0_0 : Int) (a0_1 : Int) (a1_0 : Int) (a1_1 : Int) : Option (Int) := (awardingbodyref01_Valid.f k a0_0 a0_1).bind fun t477 => (if t477 = true then ((awardingbodyref01_Valid.f k a1_0 a1_1).bind fun t478 => (awardingbodyref01_Compare.j0 k (!t478) a0_0 a0_1 a1_0 a1_1)) else (awardingbodyref01_Compare.j0 k true a0_0 a0_1 a1_0 a1_1))
theorem awardingbodyref01_Compare.mono_l : ∀ k, (∀ y0 y1 y2 y3 y4, LeO (awardingbodyref01_Compare.j0 k y0 y1 y2 y3 y4) (awardingbodyref01_Compare.j0 (k + 1) y0 y1 y2 y3 y4))
 | 0 => fun _ _ _ _ _ r h => by simp [awardingbodyref01_Compare.j0] at h
 | k + 1 => by
  have ih0 := awardingbodyref01_Compare.mono_l k
  ·intro y0 y1 y2 y3 y4
   unfold awardingbodyref01_Compare.j0
   repeat' first
   | (with_reducible exact ih0 _ _ _ _ _)
   | (with_reducible exact awardingbodyref01_Valid.mono _ _ _)
   | (with_reducible exact awardingbodyref01_total.mono _ _ _ _ _ _ _)
   | (with_reducible exact LeO.refl _)
   | (with_reducible exact LeO.none _)
   | (with_reducible refine LeO.ite ?_ ?_)
   | (with_reducible refine LeO.bind ?_ (fun _ => ?_))
   | exact ih0 _ _ _ _ _
   | exact awardingbodyref01_Valid.mono _ _ _
   | exact awardingbodyref01_total.mono _ _ _ _ _ _ _
   | exact LeO.none _
   | refine LeO.ite ?_ ?_
   | refine LeO.bind ?_ (fun _ => ?_)
theorem awardingbodyref01_Compare.mono : ∀ a0 a1 a2 a3 k, LeO (awardingbodyref01_Compare.f k a0 a1 a2 a3) (awardingbodyref01_Compare.f (k + 1) a0 a1 a2 a3) := by
 intro a0 a1 a2 a3 k
 have ih0 := awardingbodyref01_Compare.mono_l k
 unfold awardingbodyref01_Compare.f
 repeat' first
   | (with_reducible exact ih0 _ _ _ _ _)
   | (with_reducible exact awardingbodyref01_Valid.mono _ _ _)
   | (with_reducible exact awardingbodyref01_total.mono _ _ _ _ _ _ _)
   | (with_reducible exact LeO.refl _)
   | (with_reducible exact LeO.none _)
   | (with_reducible refine LeO.ite ?_ ?_)
   | (with_reducible refine LeO.bind ?_ (fun _ => ?_))
   | exact ih0 _ _ _ _ _
   | exact awardingbodyref01_Valid.mono _ _ _
   | exact awardingbodyref01_total.mono _ _ _ _ _ _ _
   | exact LeO.none _
   | refine LeO.ite ?_ ?_
   | refine LeO.bind ?_ (fun _ => ?_)
def awardingbodyref01_Compare.T3 : Bool × List (List Nat × List Nat) := (true, [([], []), ([0], [0]), ([1], [1]), ([], []), ([3], [3]), ([4], [4]), ([], []), ([6], [6]), ([7, 5], [7]), ([5, 8, 8], [5, 8]), ([], []), ([10], [10]), ([11], [11]), ([], []), ([13], [13]), ([14, 9], [14]), ([], []), ([16], [16]), ([17, 15], [17]), ([15, 18, 18], [15, 18]), ([2, 9, 12, 19, 19], [2, 9, 12, 19]), ([20], [20]), ([21], [21]), ([21], [21]), ([], []), ([22, 20, 0, 1, 2, 3, 4, 5, 6, 7, 8, 9, 10, 11, 12, 13, 14, 15, 16, 17, 18, 19, 20, 21, 22, 24], [22]), ([24, 23, 25, 0, 1, 2, 3, 4, 5, 6, 7, 8, 9, 10, 11, 12, 13, 14, 15, 16, 17, 18, 19, 20, 21, 22, 23, 24, 25], [23, 24])])
def awardingbodyref01_Compare.B3 : List Nat := [0, 1, 3, 0, 8, 24, 0, 64, 248, 504, 0, 1024, 3072, 0, 8192, 25592, 0, 65536, 254968, 517112, 1048575, 2097151, 4194303, 4194303, 0, 25165823, 67108863]
theorem awardingbodyref01_Compare.tab3 : rtab .any (opsOf Try.f32 3) = awardingbodyref01_Compare.T3 := by kernel_rfl
theorem awardingbodyref01_Compare.bits3 : waitsOk awardingbodyref01_Compare.T3.2 awardingbodyref01_Compare.B3 = true := by kernel_rfl
set_option maxHeartbeats 8000000 in
set_option maxRecDepth 100000 in
theorem awardingbodyref01_Compare.calls (k : Nat) (a0_0 : Int) (a0_1 : Int) (a1_0 : Int) (a1_1 : Int) (r : Int) (w : World) (h : awardingbodyref01_Compare.f k a0_0 a0_1 a1_0 a1_1 = some r) :
  Calls Try.prog 32 #[.agg #[.int .i64 a0_0, .int .i64 a0_1], .agg #[.int .i64 a1_0, .int .i64 a1_1]] w fun e w' => e = .returned (.int .i64 r) ∧ Below w.heap.size w w' := by
 have hu35 := Try.underlying35
 have hu61 := Try.underlying61
 have HB := Aside0.mk (Below.refl w.heap.size w)
 have H : ((awardingbodyref01_Valid.f k a0_0 a0_1).bind fun t477 => (if t477 = true then ((awardingbodyref01_Valid.f k a1_0 a1_1).bind fun t478 => (awardingbodyref01_Compare.j0 k (!t478) a0_0 a0_1 a1_0 a1_1)) else (awardingbodyref01_Compare.j0 k true a0_0 a0_1 a1_0 a1_1))) = some r := h
 clear h
 have HC3 := Aside0.mk H
 clear H
 go_enter Try.func32, Try.ntmps32
 go_upto_region 1 with (first | ((with_reducible refine gate_dst (N := 2) rfl ?_); refine box_event ?hg (N := 2) ?hd (cs := #[.int .i64 a0_0, .int .i64 a0_1]) (t := 35) ?hr ?_; (case hd => rfl); (case hg => rfl); (case hr => first | (go_simp; done) | (go_simp; rfl)); intro gb475 hg w4 hbox hb; have BK475 := Aside0.mk (hbox); have GW475 := gs HB hg; have GE475 := gs HB hg; replace HB := wb HB hb; clear hb hbox hg) | ((with_reducible refine gate_dst (N := 3) rfl ?_); refine box_event ?hg (N := 3) ?hd (cs := #[.int .i64 a1_0, .int .i64 a1_1]) (t := 35) ?hr ?_; (case hd => rfl); (case hg => rfl); (case hr => first | (go_simp; done) | (go_simp; rfl)); intro gb476 hg w5 hbox hb; have BK476 := Aside0.mk (hbox); have GW476 := gs HB hg; have GE476 := gs HB hg; have NB475_476 := nl BK475 hg; have NB476_475 := nr BK475 hg; replace BK475 := kb BK475 hb; replace HB := wb HB hb; clear hb hbox hg))
 (try simp only [Act.put, List.setIfInBounds_toArray, List.set_cons_zero, List.set_cons_succ])
 go_cut [14] (fun v14 wc => ∃ (kq : Nat) (x14_2 : Bool), v14 = .bool x14_2 ∧ Aside0 (awardingbodyref01_Compare.j0 kq x14_2 a0_0 a0_1 a1_0 a1_1 = some r) ∧ Aside0 (kq ≤ k) ∧ Aside0 (wc.heap[gb475]? = some (.cells #[.int .i64 a0_0, .int .i64 a0_1] 35 (0, 0))) ∧ Aside0 (wc.heap[gb476]? = some (.cells #[.int .i64 a1_0, .int .i64 a1_1] 35 (0, 0))) ∧ Aside0 (Below w.heap.size w wc))
 case first =>
  have H := HC3.out
  clear HC3
  replace H := Option.bind_eq_some_iff.mp H
  obtain ⟨t477, A60, H⟩ := H
  replace H : (if t477 = true then ((awardingbodyref01_Valid.f k a1_0 a1_1).bind fun t478 => (awardingbodyref01_Compare.j0 k (!t478) a0_0 a0_1 a1_0 a1_1)) else (awardingbodyref01_Compare.j0 k true a0_0 a0_1 a1_0 a1_1)) = some r := H
  have A6 := Aside0.mk A60
  clear A60
  by_cases c7 : t477 = true
  ·subst c7
   have H1 : ((awardingbodyref01_Valid.f k a1_0 a1_1).bind fun t478 => (awardingbodyref01_Compare.j0 k (!t478) a0_0 a0_1 a1_0 a1_1)) = some r := by rw [if_pos rfl] at H; exact H
   clear H
   have H := H1
   clear H1
   replace H := Option.bind_eq_some_iff.mp H
   obtain ⟨t478, A80, H⟩ := H
   replace H : (awardingbodyref01_Compare.j0 k (!t478) a0_0 a0_1 a1_0 a1_1) = some r := H
   have A8 := Aside0.mk A80
   clear A80
   have H' := Aside0.mk H
   clear H
   obtain ⟨hnb9, hnc9⟩ := n2 NB475_476
   have hcz10_0 : w5.cell? ⟨gb475, 0, none⟩ = some (.int .i64 a0_0) := (blk_cell BK475.out 0).trans rfl
   have hcz10_1 : w5.cell? ⟨gb475, 1, none⟩ = some (.int .i64 a0_1) := (blk_cell BK475.out 1).trans rfl
   have hfz10_0 := blk_frozen BK475.out 0
   have hfz10_1 := blk_frozen BK475.out 1
   go_wp2_with (first | ((with_reducible refine gate_callee (f := 25) rfl ?_); refine goesL_ (some 8) rfl rfl Try.func25 (by kernel_rfl) rfl #[.agg #[.int .i64 a0_0, .int .i64 a0_1]] rfl (by (try simp only [List.map_toArray, List.map_cons, List.map_nil]); first | done | rfl | (simp only [List.length_drop, List.length_take]; rfl)) ?_; (with_reducible refine (awardingbodyref01_Valid.calls k a0_0 a0_1 true _ A6.out).mono ?_); rintro e w11 ⟨rfl, hb⟩; refine ⟨_, rfl, ?_⟩; replace BK475 := kb BK475 hb; replace BK476 := kb BK476 hb; replace HB := wb HB hb; (try clear hb); (try clear hb2); (try clear hk); (try clear hi); have hcz12_0 : w11.cell? ⟨gb476, 0, none⟩ = some (.int .i64 a1_0) := (blk_cell BK476.out 0).trans rfl; have hcz12_1 : w11.cell? ⟨gb476, 1, none⟩ = some (.int .i64 a1_1) := (blk_cell BK476.out 1).trans rfl; have hfz12_0 := blk_frozen BK476.out 0; have hfz12_1 := blk_frozen BK476.out 1) | (go_at_call 25; (with_reducible refine (awardingbodyref01_Valid.calls k a1_0 a1_1 t478 _ A8.out).mono ?_); rintro e w13 ⟨rfl, hb⟩; replace BK475 := kb BK475 hb; replace BK476 := kb BK476 hb; replace HB := wb HB hb; (try clear hb); (try clear hb2); (try clear hk); (try clear hi)))
   go_meet
   case rel => exact ⟨_, (!t478), (by first | rfl | (simp; done) | (simp [*]; done)), H', ⟨by first | omega | exact Nat.le_refl _⟩, ⟨bq BK475⟩, ⟨bq BK476⟩, ⟨bw HB⟩⟩
  ·replace c7 := Bool.eq_false_iff.mpr c7
   subst c7
   have H1 : (awardingbodyref01_Compare.j0 k true a0_0 a0_1 a1_0 a1_1) = some r := by rw [if_neg (show ¬ (false = true) by decide)] at H; exact H
   clear H
   have H := H1
   clear H1
   have H' := Aside0.mk H
   clear H
   obtain ⟨hnb14, hnc14⟩ := n2 NB475_476
   have hcz15_0 : w5.cell? ⟨gb475, 0, none⟩ = some (.int .i64 a0_0) := (blk_cell BK475.out 0).trans rfl
   have hcz15_1 : w5.cell? ⟨gb475, 1, none⟩ = some (.int .i64 a0_1) := (blk_cell BK475.out 1).trans rfl
   have hfz15_0 := blk_frozen BK475.out 0
   have hfz15_1 := blk_frozen BK475.out 1
   go_wp2_with (first | ((with_reducible refine gate_callee (f := 25) rfl ?_); refine goesL_ (some 8) rfl rfl Try.func25 (by kernel_rfl) rfl #[.agg #[.int .i64 a0_0, .int .i64 a0_1]] rfl (by (try simp only [List.map_toArray, List.map_cons, List.map_nil]); first | done | rfl | (simp only [List.length_drop, List.length_take]; rfl)) ?_; (with_reducible refine (awardingbodyref01_Valid.calls k a0_0 a0_1 false _ A6.out).mono ?_); rintro e w16 ⟨rfl, hb⟩; refine ⟨_, rfl, ?_⟩; replace BK475 := kb BK475 hb; replace BK476 := kb BK476 hb; replace HB := wb HB hb; (try clear hb); (try clear hb2); (try clear hk); (try clear hi)))
   go_meet
   case rel => exact ⟨_, (true), (by first | rfl | (simp; done) | (simp [*]; done)), H', ⟨by first | omega | exact Nat.le_refl _⟩, ⟨bq BK475⟩, ⟨bq BK476⟩, ⟨bw HB⟩⟩
 case rest =>
  clear HC3
  try clear c1
  try clear c2
  try clear p2
  try clear c3
  try clear c7
  try clear c9
  try clear c14
  try clear hcz10_0
  try clear hcz10_1
  try clear hcz12_0
  try clear hcz12_1
  try clear hcz15_0
  try clear hcz15_1
  try clear hfz10_0
  try clear hfz10_1
  try clear hfz12_0
  try clear hfz12_1
  try clear hfz15_0
  try clear hfz15_1
  obtain ⟨kq, x14_2, rfl, HA, HJ2, BK475, BK476, HB⟩ := hcut
  cases kq with
  | zero => exact absurd HA.out (by simp [awardingbodyref01_Compare.j0])
  | succ kj2 =>
   have H := HA.out
   clear HA
   simp only [awardingbodyref01_Compare.j0] at H
   by_cases c17 : x14_2 = true
   ·subst c17
    have H1 : (some 0) = some r := by rw [if_pos rfl] at H; exact H
    clear H
    have H := H1
    clear H1
    obtain rfl := Option.some.inj H
    go_wp2
    go_ret
    exact ⟨by first | rfl | (simp [errW_none, errW_some] <;> rfl) | (simp [*, errW_none, errW_some] <;> rfl), bw HB⟩
   ·replace c17 := Bool.eq_false_iff.mpr c17
    subst c17
    have H1 : ((awardingbodyref01_Size.f a0_0).bind fun t479 => ((awardingbodyref01_Size.f a1_1).bind fun t480 => ((awardingbodyref01_Product.f t479 t480).bind fun bt481 => ((awardingbodyref01_Size.f a1_0).bind fun t483 => ((awardingbodyref01_Size.f a0_1).bind fun t484 => ((awardingbodyref01_Product.f t483 t484).bind fun bt485 => ((awardingbodyref01_total.f kj2 (decide (a0_0 < 0)) bt481.1 bt481.2 (decide (a1_0 > 0)) bt485.1 bt485.2).bind fun bt487 => (if (bt487.2.1 == 0 && (bt487.2.2 == 0)) = true then (some 0) else (if bt487.1 = true then (some (-1)) else (some 1)))))))))) = some r := by rw [if_neg (show ¬ (false = true) by decide)] at H; exact H
    clear H
    have H := H1
    clear H1
    replace H := Option.bind_eq_some_iff.mp H
    obtain ⟨t479, A180, H⟩ := H
    replace H : ((awardingbodyref01_Size.f a1_1).bind fun t480 => ((awardingbodyref01_Product.f t479 t480).bind fun bt481 => ((awardingbodyref01_Size.f a1_0).bind fun t483 => ((awardingbodyref01_Size.f a0_1).bind fun t484 => ((awardingbodyref01_Product.f t483 t484).bind fun bt485 => ((awardingbodyref01_total.f kj2 (decide (a0_0 < 0)) bt481.1 bt481.2 (decide (a1_0 > 0)) bt485.1 bt485.2).bind fun bt487 => (if (bt487.2.1 == 0 && (bt487.2.2 == 0)) = true then (some 0) else (if bt487.1 = true then (some (-1)) else (some 1))))))))) = some r := H
    have A18 := Aside0.mk A180
    clear A180
    replace H := Option.bind_eq_some_iff.mp H
    obtain ⟨t480, A190, H⟩ := H
    replace H : ((awardingbodyref01_Product.f t479 t480).bind fun bt481 => ((awardingbodyref01_Size.f a1_0).bind fun t483 => ((awardingbodyref01_Size.f a0_1).bind fun t484 => ((awardingbodyref01_Product.f t483 t484).bind fun bt485 => ((awardingbodyref01_total.f kj2 (decide (a0_0 < 0)) bt481.1 bt481.2 (decide (a1_0 > 0)) bt485.1 bt485.2).bind fun bt487 => (if (bt487.2.1 == 0 && (bt487.2.2 == 0)) = true then (some 0) else (if bt487.1 = true then (some (-1)) else (some 1)))))))) = some r := H
    have A19 := Aside0.mk A190
    clear A190
    replace H := Option.bind_eq_some_iff.mp H
    obtain ⟨⟨t481, t482⟩, A200, H⟩ := H
    replace H : ((awardingbodyref01_Size.f a1_0).bind fun t483 => ((awardingbodyref01_Size.f a0_1).bind fun t484 => ((awardingbodyref01_Product.f t483 t484).bind fun bt485 => ((awardingbodyref01_total.f kj2 (decide (a0_0 < 0)) t481 t482 (decide (a1_0 > 0)) bt485.1 bt485.2).bind fun bt487 => (if (bt487.2.1 == 0 && (bt487.2.2 == 0)) = true then (some 0) else (if bt487.1 = true then (some (-1)) else (some 1))))))) = some r := H
    have A20 := Aside0.mk A200
    clear A200
    replace H := Option.bind_eq_some_iff.mp H
    obtain ⟨t483, A210, H⟩ := H
    replace H : ((awardingbodyref01_Size.f a0_1).bind fun t484 => ((awardingbodyref01_Product.f t483 t484).bind fun bt485 => ((awardingbodyref01_total.f kj2 (decide (a0_0 < 0)) t481 t482 (decide (a1_0 > 0)) bt485.1 bt485.2).bind fun bt487 => (if (bt487.2.1 == 0 && (bt487.2.2 == 0)) = true then (some 0) else (if bt487.1 = true then (some (-1)) else (some 1)))))) = some r := H
    have A21 := Aside0.mk A210
    clear A210
    replace H := Option.bind_eq_some_iff.mp H
    obtain ⟨t484, A220, H⟩ := H
    replace H : ((awardingbodyref01_Product.f t483 t484).bind fun bt485 => ((awardingbodyref01_total.f kj2 (decide (a0_0 < 0)) t481 t482 (decide (a1_0 > 0)) bt485.1 bt485.2).bind fun bt487 => (if (bt487.2.1 == 0 && (bt487.2.2 == 0)) = true then (some 0) else (if bt487.1 = true then (some (-1)) else (some 1))))) = some r := H
    have A22 := Aside0.mk A220
    clear A220
    replace H := Option.bind_eq_some_iff.mp H
    obtain ⟨⟨t485, t486⟩, A230, H⟩ := H
    replace H : ((awardingbodyref01_total.f kj2 (decide (a0_0 < 0)) t481 t482 (decide (a1_0 > 0)) t485 t486).bind fun bt487 => (if (bt487.2.1 == 0 && (bt487.2.2 == 0)) = true then (some 0) else (if bt487.1 = true then (some (-1)) else (some 1)))) = some r := H
    have A23 := Aside0.mk A230
    clear A230
    replace H := Option.bind_eq_some_iff.mp H
    obtain ⟨⟨t487, t488, t489⟩, A240, H⟩ := H
    replace H : (if (t488 == 0 && (t489 == 0)) = true then (some 0) else (if t487 = true then (some (-1)) else (some 1))) = some r := H
    have A24 := Aside0.mk A240
    clear A240
    have HC25 := Aside0.mk H
    clear H
    try go_wp2
    have n0_ := Aside0.mk (blk_drew BK475.out)
    have n1_ := Aside0.mk (blk_drew BK476.out)
    have n2_ := Aside0.mk (below_drew1 HB.out)
    clear BK475
    clear BK476
    clear HB
    have BK475 := n0_
    have BK476 := n1_
    have HB := n2_
    clear n0_ n1_ n2_
    refine start_ (n := 27) (S := fun w' => w'.cell? ⟨gb475, 0, none⟩ = some (.int .i64 a0_0) ∧ w'.cell? ⟨gb475, 1, none⟩ = some (.int .i64 a0_1) ∧ w'.cell? ⟨gb476, 0, none⟩ = some (.int .i64 a1_0) ∧ w'.cell? ⟨gb476, 1, none⟩ = some (.int .i64 a1_1)) (ds := []) #[false, false, false, false, false, false, false, false, false, false, false, false, false, false, false, false, false, false, false, false, false, false, false, false, false, false, false] (by kernel_rfl) rfl rfl ⟨(blk_cell BK475.out 0).trans rfl, (blk_cell BK475.out 1).trans rfl, (blk_cell BK476.out 0).trans rfl, (blk_cell BK476.out 1).trans rfl⟩ (fun hHeld => ?_); refine with_tabW awardingbodyref01_Compare.tab3 awardingbodyref01_Compare.bits3 (fun HT_ HW_ => ?_)
    generalize wc.drew = w26 at BK475 BK476 HB hHeld ⊢
    refine pure_ (i := 0) (N := some 16) (v := ?_) (a' := ?_) #[true, false, false, false, false, false, false, false, false, false, false, false, false, false, false, false, false, false, false, false, false, false, false, false, false, false, false] rfl rfl (any_of HT_.out (by kernel_rfl)) (fun _ _ _ h => h) (Or.inl ⟨by rfl, ?_⟩) ?_ ?_
    rotate_left
    ·intro w'
     go_simp
     with_reducible rfl
    rotate_left
    ·simp only [Act.put, List.setIfInBounds_toArray, List.set_cons_zero, List.set_cons_succ, i64_w, i32_w]
     rfl
    refine pure_ (i := 3) (N := some 19) (v := ?_) (a' := ?_) #[true, false, false, true, false, false, false, false, false, false, false, false, false, false, false, false, false, false, false, false, false, false, false, false, false, false, false] rfl rfl (any_of HT_.out (by kernel_rfl)) (fun _ _ _ h => h) (Or.inl ⟨by rfl, ?_⟩) ?_ ?_
    rotate_left
    ·intro w'
     go_simp
     with_reducible rfl
    rotate_left
    ·simp only [Act.put, List.setIfInBounds_toArray, List.set_cons_zero, List.set_cons_succ, i64_w, i32_w]
     rfl
    refine pure_ (i := 6) (N := some 22) (v := ?_) (a' := ?_) #[true, false, false, true, false, false, true, false, false, false, false, false, false, false, false, false, false, false, false, false, false, false, false, false, false, false, false] rfl rfl (any_of HT_.out (by kernel_rfl)) (fun _ _ _ h => h) (Or.inl ⟨by rfl, ?_⟩) ?_ ?_
    rotate_left
    ·intro w'
     go_simp
     with_reducible rfl
    rotate_left
    ·simp only [Act.put, List.setIfInBounds_toArray, List.set_cons_zero, List.set_cons_succ, i64_w, i32_w]
     rfl
    refine pure_ (i := 10) (N := some 26) (v := ?_) (a' := ?_) #[true, false, false, true, false, false, true, false, false, false, true, false, false, false, false, false, false, false, false, false, false, false, false, false, false, false, false] rfl rfl (any_of HT_.out (by kernel_rfl)) (fun _ _ _ h => h) (Or.inl ⟨by rfl, ?_⟩) ?_ ?_
    rotate_left
    ·intro w'
     go_simp
     with_reducible rfl
    rotate_left
    ·simp only [Act.put, List.setIfInBounds_toArray, List.set_cons_zero, List.set_cons_succ, i64_w, i32_w]
     rfl
    refine pure_ (i := 13) (N := some 29) (v := ?_) (a' := ?_) #[true, false, false, true, false, false, true, false, false, false, true, false, false, true, false, false, false, false, false, false, false, false, false, false, false, false, false] rfl rfl (any_of HT_.out (by kernel_rfl)) (fun _ _ _ h => h) (Or.inl ⟨by rfl, ?_⟩) ?_ ?_
    rotate_left
    ·intro w'
     go_simp
     with_reducible rfl
    rotate_left
    ·simp only [Act.put, List.setIfInBounds_toArray, List.set_cons_zero, List.set_cons_succ, i64_w, i32_w]
     rfl
    refine pure_ (i := 16) (N := some 32) (v := ?_) (a' := ?_) #[true, false, false, true, false, false, true, false, false, false, true, false, false, true, false, false, true, false, false, false, false, false, false, false, false, false, false] rfl rfl (any_of HT_.out (by kernel_rfl)) (fun _ _ _ h => h) (Or.inl ⟨by rfl, ?_⟩) ?_ ?_
    rotate_left
    ·intro w'
     go_simp
     with_reducible rfl
    rotate_left
    ·simp only [Act.put, List.setIfInBounds_toArray, List.set_cons_zero, List.set_cons_succ, i64_w, i32_w]
     rfl
    refine take_ (i := 1) (N := some 17) (v := ?_) (a' := ?_) #[true, true, false, true, false, false, true, false, false, false, true, false, false, true, false, false, true, false, false, false, false, false, false, false, false, false, false] rfl rfl (take_ofW HT_.out HW_.out (by kernel_rfl)) (fun _ _ _ h => h) (Or.inl ⟨by rfl, ?_⟩) hHeld ?_ ?_
    rotate_left
    ·rintro w' ⟨s0, s1, s2, s3⟩
     go_simp
     with_reducible rfl
    rotate_left
    ·simp only [Act.put, List.setIfInBounds_toArray, List.set_cons_zero, List.set_cons_succ, i64_w, i32_w]
     rfl
    refine pure_ (i := 2) (N := some 18) (v := ?_) (a' := ?_) #[true, true, true, true, false, false, true, false, false, false, true, false, false, true, false, false, true, false, false, false, false, false, false, false, false, false, false] rfl rfl (any_of HT_.out (by kernel_rfl)) (fun _ _ _ h => h) (Or.inl ⟨by rfl, ?_⟩) ?_ ?_
    rotate_left
    ·intro w'
     go_simp
     with_reducible rfl
    rotate_left
    ·simp only [Act.put, List.setIfInBounds_toArray, List.set_cons_zero, List.set_cons_succ, i64_w, i32_w]
     rfl
    refine take_ (i := 4) (N := some 20) (v := ?_) (a' := ?_) #[true, true, true, true, true, false, true, false, false, false, true, false, false, true, false, false, true, false, false, false, false, false, false, false, false, false, false] rfl rfl (take_ofW HT_.out HW_.out (by kernel_rfl)) (fun _ _ _ h => h) (Or.inl ⟨by rfl, ?_⟩) hHeld ?_ ?_
    rotate_left
    ·rintro w' ⟨s0, s1, s2, s3⟩
     go_simp
     with_reducible rfl
    rotate_left
    ·simp only [Act.put, List.setIfInBounds_toArray, List.set_cons_zero, List.set_cons_succ, i64_w, i32_w]
     rfl
    refine take_ (i := 7) (N := some 23) (v := ?_) (a' := ?_) #[true, true, true, true, true, false, true, true, false, false, true, false, false, true, false, false, true, false, false, false, false, false, false, false, false, false, false] rfl rfl (take_ofW HT_.out HW_.out (by kernel_rfl)) (fun _ _ _ h => h) (Or.inl ⟨by rfl, ?_⟩) hHeld ?_ ?_
    rotate_left
    ·rintro w' ⟨s0, s1, s2, s3⟩
     go_simp
     with_reducible rfl
    rotate_left
    ·simp only [Act.put, List.setIfInBounds_toArray, List.set_cons_zero, List.set_cons_succ, i64_w, i32_w]
     rfl
    refine take_ (i := 11) (N := some 27) (v := ?_) (a' := ?_) #[true, true, true, true, true, false, true, true, false, false, true, true, false, true, false, false, true, false, false, false, false, false, false, false, false, false, false] rfl rfl (take_ofW HT_.out HW_.out (by kernel_rfl)) (fun _ _ _ h => h) (Or.inl ⟨by rfl, ?_⟩) hHeld ?_ ?_
    rotate_left
    ·rintro w' ⟨s0, s1, s2, s3⟩
     go_simp
     with_reducible rfl
    rotate_left
    ·simp only [Act.put, List.setIfInBounds_toArray, List.set_cons_zero, List.set_cons_succ, i64_w, i32_w]
     rfl
    refine pure_ (i := 12) (N := some 28) (v := ?_) (a' := ?_) #[true, true, true, true, true, false, true, true, false, false, true, true, true, true, false, false, true, false, false, false, false, false, false, false, false, false, false] rfl rfl (any_of HT_.out (by kernel_rfl)) (fun _ _ _ h => h) (Or.inl ⟨by rfl, ?_⟩) ?_ ?_
    rotate_left
    ·intro w'
     go_simp
     with_reducible rfl
    rotate_left
    ·simp only [Act.put, List.setIfInBounds_toArray, List.set_cons_zero, List.set_cons_succ, i64_w, i32_w]
     rfl
    refine take_ (i := 14) (N := some 30) (v := ?_) (a' := ?_) #[true, true, true, true, true, false, true, true, false, false, true, true, true, true, true, false, true, false, false, false, false, false, false, false, false, false, false] rfl rfl (take_ofW HT_.out HW_.out (by kernel_rfl)) (fun _ _ _ h => h) (Or.inl ⟨by rfl, ?_⟩) hHeld ?_ ?_
    rotate_left
    ·rintro w' ⟨s0, s1, s2, s3⟩
     go_simp
     with_reducible rfl
    rotate_left
    ·simp only [Act.put, List.setIfInBounds_toArray, List.set_cons_zero, List.set_cons_succ, i64_w, i32_w]
     rfl
    refine take_ (i := 17) (N := some 33) (v := ?_) (a' := ?_) #[true, true, true, true, true, false, true, true, false, false, true, true, true, true, true, false, true, true, false, false, false, false, false, false, false, false, false] rfl rfl (take_ofW HT_.out HW_.out (by kernel_rfl)) (fun _ _ _ h => h) (Or.inl ⟨by rfl, ?_⟩) hHeld ?_ ?_
    rotate_left
    ·rintro w' ⟨s0, s1, s2, s3⟩
     go_simp
     with_reducible rfl
    rotate_left
    ·simp only [Act.put, List.setIfInBounds_toArray, List.set_cons_zero, List.set_cons_succ, i64_w, i32_w]
     rfl
    refine join_ (σ := Nat) 2 #[true, true, true, true, true, true, true, true, true, true, true, true, true, true, true, true, true, true, true, true, true, true, true, true, true, false, false] (fun s_ => [(21, .int .u64 t479), (24, .int .u64 t480), (25, .agg #[.int .u64 t481, .int .u64 t482]), (31, .int .u64 t483), (34, .int .u64 t484), (35, .agg #[.int .u64 t485, .int .u64 t486]), (36, .tuple #[.bool t487, .agg #[.int .u64 t488, .int .u64 t489]]), (6, .pointer (some ⟨s_, 0, none⟩)), (15, .tuple #[.bool t487, .agg #[.int .u64 t488, .int .u64 t489]]), (37, .bool t487), (38, .agg #[.int .u64 t488, .int .u64 t489])]) (fun s_ w' => (w'.cell? ⟨gb475, 0, none⟩ = some (.int .i64 a0_0) ∧ w'.cell? ⟨gb475, 1, none⟩ = some (.int .i64 a0_1) ∧ w'.cell? ⟨gb476, 0, none⟩ = some (.int .i64 a1_0) ∧ w'.cell? ⟨gb476, 1, none⟩ = some (.int .i64 a1_1)) ∧ (w'.heap[gb475]? = some (.cells #[.int .i64 a0_0, .int .i64 a0_1] 35 (0, 0))) ∧ (w'.heap[gb476]? = some (.cells #[.int .i64 a1_0, .int .i64 a1_1] 35 (0, 0))) ∧ (w'.heap[s_]? = some (.cells #[.int .u64 0, .int .u64 0] 61 (0, 0))) ∧ (w.heap.size ≤ s_) ∧ (w.heap.size ≤ s_) ∧ (gb475 ≠ s_) ∧ (s_ ≠ gb475) ∧ (gb476 ≠ s_) ∧ (s_ ≠ gb476) ∧ (Below w.heap.size w w')) ?_ ?_
    rotate_left
    ·intro hJ5_8_9_15_18_19_20_24
     refine join_ (σ := Unit) 3 #[true, true, true, true, true, true, true, true, true, true, true, true, true, true, true, true, true, true, true, true, true, true, true, true, false, false, false] (fun s_ => [(21, .int .u64 t479), (24, .int .u64 t480), (25, .agg #[.int .u64 t481, .int .u64 t482]), (31, .int .u64 t483), (34, .int .u64 t484), (35, .agg #[.int .u64 t485, .int .u64 t486]), (36, .tuple #[.bool t487, .agg #[.int .u64 t488, .int .u64 t489]]), (15, .tuple #[.bool t487, .agg #[.int .u64 t488, .int .u64 t489]]), (37, .bool t487), (38, .agg #[.int .u64 t488, .int .u64 t489])]) (fun s_ w' => (w'.cell? ⟨gb475, 0, none⟩ = some (.int .i64 a0_0) ∧ w'.cell? ⟨gb475, 1, none⟩ = some (.int .i64 a0_1) ∧ w'.cell? ⟨gb476, 0, none⟩ = some (.int .i64 a1_0) ∧ w'.cell? ⟨gb476, 1, none⟩ = some (.int .i64 a1_1)) ∧ (w'.heap[gb475]? = some (.cells #[.int .i64 a0_0, .int .i64 a0_1] 35 (0, 0))) ∧ (w'.heap[gb476]? = some (.cells #[.int .i64 a1_0, .int .i64 a1_1] 35 (0, 0))) ∧ (Below w.heap.size w w')) ?_ ?_
     rotate_left
     ·intro hJ5_8_9_15_18_19_20
      refine join_ (σ := Nat) 6 #[true, true, true, true, true, true, true, true, true, true, true, true, true, true, true, true, true, true, true, true, false, false, false, false, true, false, false] (fun s_ => [(21, .int .u64 t479), (24, .int .u64 t480), (25, .agg #[.int .u64 t481, .int .u64 t482]), (31, .int .u64 t483), (34, .int .u64 t484), (35, .agg #[.int .u64 t485, .int .u64 t486]), (6, .pointer (some ⟨s_, 0, none⟩))]) (fun s_ w' => (w'.cell? ⟨gb475, 0, none⟩ = some (.int .i64 a0_0) ∧ w'.cell? ⟨gb475, 1, none⟩ = some (.int .i64 a0_1) ∧ w'.cell? ⟨gb476, 0, none⟩ = some (.int .i64 a1_0) ∧ w'.cell? ⟨gb476, 1, none⟩ = some (.int .i64 a1_1)) ∧ (w'.heap[gb475]? = some (.cells #[.int .i64 a0_0, .int .i64 a0_1] 35 (0, 0))) ∧ (w'.heap[gb476]? = some (.cells #[.int .i64 a1_0, .int .i64 a1_1] 35 (0, 0))) ∧ (w'.heap[s_]? = some (.cells #[.int .u64 0, .int .u64 0] 61 (0, 0))) ∧ (w.heap.size ≤ s_) ∧ (w.heap.size ≤ s_) ∧ (gb475 ≠ s_) ∧ (s_ ≠ gb475) ∧ (gb476 ≠ s_) ∧ (s_ ≠ gb476) ∧ (Below w.heap.size w w')) ?_ ?_
      rotate_left
      ·intro hJ5_8_9_15_18_19_24
       refine join_ (σ := Unit) 7 #[true, true, true, true, true, true, true, true, true, true, true, true, true, true, true, true, true, true, true, true, false, false, false, false, false, false, false] (fun s_ => [(21, .int .u64 t479), (24, .int .u64 t480), (25, .agg #[.int .u64 t481, .int .u64 t482]), (31, .int .u64 t483), (34, .int .u64 t484), (35, .agg #[.int .u64 t485, .int .u64 t486])]) (fun s_ w' => (w'.cell? ⟨gb475, 0, none⟩ = some (.int .i64 a0_0) ∧ w'.cell? ⟨gb475, 1, none⟩ = some (.int .i64 a0_1) ∧ w'.cell? ⟨gb476, 0, none⟩ = some (.int .i64 a1_0) ∧ w'.cell? ⟨gb476, 1, none⟩ = some (.int .i64 a1_1)) ∧ (w'.heap[gb475]? = some (.cells #[.int .i64 a0_0, .int .i64 a0_1] 35 (0, 0))) ∧ (w'.heap[gb476]? = some (.cells #[.int .i64 a1_0, .int .i64 a1_1] 35 (0, 0))) ∧ (Below w.heap.size w w')) ?_ ?_
       rotate_left
       ·intro hJ5_8_9_15_18_19
        refine join_ (σ := Nat) 7 #[true, true, true, true, true, true, true, true, true, true, true, true, true, true, true, true, true, true, true, false, false, false, false, false, true, false, false] (fun s_ => [(21, .int .u64 t479), (24, .int .u64 t480), (25, .agg #[.int .u64 t481, .int .u64 t482]), (31, .int .u64 t483), (34, .int .u64 t484), (6, .pointer (some ⟨s_, 0, none⟩))]) (fun s_ w' => (w'.cell? ⟨gb475, 0, none⟩ = some (.int .i64 a0_0) ∧ w'.cell? ⟨gb475, 1, none⟩ = some (.int .i64 a0_1) ∧ w'.cell? ⟨gb476, 0, none⟩ = some (.int .i64 a1_0) ∧ w'.cell? ⟨gb476, 1, none⟩ = some (.int .i64 a1_1)) ∧ (w'.heap[gb475]? = some (.cells #[.int .i64 a0_0, .int .i64 a0_1] 35 (0, 0))) ∧ (w'.heap[gb476]? = some (.cells #[.int .i64 a1_0, .int .i64 a1_1] 35 (0, 0))) ∧ (w'.heap[s_]? = some (.cells #[.int .u64 0, .int .u64 0] 61 (0, 0))) ∧ (w.heap.size ≤ s_) ∧ (w.heap.size ≤ s_) ∧ (gb475 ≠ s_) ∧ (s_ ≠ gb475) ∧ (gb476 ≠ s_) ∧ (s_ ≠ gb476) ∧ (Below w.heap.size w w')) ?_ ?_
        rotate_left
        ·intro hJ5_8_9_15_18_24
         refine join_ (σ := Unit) 8 #[true, true, true, true, true, true, true, true, true, true, true, true, true, true, true, true, true, true, true, false, false, false, false, false, false, false, false] (fun s_ => [(21, .int .u64 t479), (24, .int .u64 t480), (25, .agg #[.int .u64 t481, .int .u64 t482]), (31, .int .u64 t483), (34, .int .u64 t484)]) (fun s_ w' => (w'.cell? ⟨gb475, 0, none⟩ = some (.int .i64 a0_0) ∧ w'.cell? ⟨gb475, 1, none⟩ = some (.int .i64 a0_1) ∧ w'.cell? ⟨gb476, 0, none⟩ = some (.int .i64 a1_0) ∧ w'.cell? ⟨gb476, 1, none⟩ = some (.int .i64 a1_1)) ∧ (w'.heap[gb475]? = some (.cells #[.int .i64 a0_0, .int .i64 a0_1] 35 (0, 0))) ∧ (w'.heap[gb476]? = some (.cells #[.int .i64 a1_0, .int .i64 a1_1] 35 (0, 0))) ∧ (Below w.heap.size w w')) ?_ ?_
         rotate_left
         ·intro hJ5_8_9_15_18
          refine join_ (σ := Nat) 8 #[true, true, true, true, true, true, true, true, true, true, true, true, true, true, true, true, true, true, false, false, false, false, false, false, true, false, false] (fun s_ => [(21, .int .u64 t479), (24, .int .u64 t480), (25, .agg #[.int .u64 t481, .int .u64 t482]), (31, .int .u64 t483), (6, .pointer (some ⟨s_, 0, none⟩))]) (fun s_ w' => (w'.cell? ⟨gb475, 0, none⟩ = some (.int .i64 a0_0) ∧ w'.cell? ⟨gb475, 1, none⟩ = some (.int .i64 a0_1) ∧ w'.cell? ⟨gb476, 0, none⟩ = some (.int .i64 a1_0) ∧ w'.cell? ⟨gb476, 1, none⟩ = some (.int .i64 a1_1)) ∧ (w'.heap[gb475]? = some (.cells #[.int .i64 a0_0, .int .i64 a0_1] 35 (0, 0))) ∧ (w'.heap[gb476]? = some (.cells #[.int .i64 a1_0, .int .i64 a1_1] 35 (0, 0))) ∧ (w'.heap[s_]? = some (.cells #[.int .u64 0, .int .u64 0] 61 (0, 0))) ∧ (w.heap.size ≤ s_) ∧ (w.heap.size ≤ s_) ∧ (gb475 ≠ s_) ∧ (s_ ≠ gb475) ∧ (gb476 ≠ s_) ∧ (s_ ≠ gb476) ∧ (Below w.heap.size w w')) ?_ ?_
          rotate_left
          ·intro hJ5_8_9_15_24
           refine join_ (σ := Unit) 9 #[true, true, true, true, true, true, true, true, true, true, true, true, true, true, true, true, true, true, false, false, false, false, false, false, false, false, false] (fun s_ => [(21, .int .u64 t479), (24, .int .u64 t480), (25, .agg #[.int .u64 t481, .int .u64 t482]), (31, .int .u64 t483)]) (fun s_ w' => (w'.cell? ⟨gb475, 0, none⟩ = some (.int .i64 a0_0) ∧ w'.cell? ⟨gb475, 1, none⟩ = some (.int .i64 a0_1) ∧ w'.cell? ⟨gb476, 0, none⟩ = some (.int .i64 a1_0) ∧ w'.cell? ⟨gb476, 1, none⟩ = some (.int .i64 a1_1)) ∧ (w'.heap[gb475]? = some (.cells #[.int .i64 a0_0, .int .i64 a0_1] 35 (0, 0))) ∧ (w'.heap[gb476]? = some (.cells #[.int .i64 a1_0, .int .i64 a1_1] 35 (0, 0))) ∧ (Below w.heap.size w w')) ?_ ?_
           rotate_left
           ·intro hJ5_8_9_15
            refine join_ (σ := Nat) 9 #[true, true, true, true, true, true, true, true, true, true, true, true, true, true, true, false, true, true, false, false, false, false, false, false, true, false, false] (fun s_ => [(21, .int .u64 t479), (24, .int .u64 t480), (25, .agg #[.int .u64 t481, .int .u64 t482]), (6, .pointer (some ⟨s_, 0, none⟩))]) (fun s_ w' => (w'.cell? ⟨gb475, 0, none⟩ = some (.int .i64 a0_0) ∧ w'.cell? ⟨gb475, 1, none⟩ = some (.int .i64 a0_1) ∧ w'.cell? ⟨gb476, 0, none⟩ = some (.int .i64 a1_0) ∧ w'.cell? ⟨gb476, 1, none⟩ = some (.int .i64 a1_1)) ∧ (w'.heap[gb475]? = some (.cells #[.int .i64 a0_0, .int .i64 a0_1] 35 (0, 0))) ∧ (w'.heap[gb476]? = some (.cells #[.int .i64 a1_0, .int .i64 a1_1] 35 (0, 0))) ∧ (w'.heap[s_]? = some (.cells #[.int .u64 0, .int .u64 0] 61 (0, 0))) ∧ (w.heap.size ≤ s_) ∧ (w.heap.size ≤ s_) ∧ (gb475 ≠ s_) ∧ (s_ ≠ gb475) ∧ (gb476 ≠ s_) ∧ (s_ ≠ gb476) ∧ (Below w.heap.size w w')) ?_ ?_
            rotate_left
            ·intro hJ5_8_9_24
             refine join_ (σ := Unit) 10 #[true, true, true, true, true, true, true, true, true, true, true, true, true, true, true, false, true, true, false, false, false, false, false, false, false, false, false] (fun s_ => [(21, .int .u64 t479), (24, .int .u64 t480), (25, .agg #[.int .u64 t481, .int .u64 t482])]) (fun s_ w' => (w'.cell? ⟨gb475, 0, none⟩ = some (.int .i64 a0_0) ∧ w'.cell? ⟨gb475, 1, none⟩ = some (.int .i64 a0_1) ∧ w'.cell? ⟨gb476, 0, none⟩ = some (.int .i64 a1_0) ∧ w'.cell? ⟨gb476, 1, none⟩ = some (.int .i64 a1_1)) ∧ (w'.heap[gb475]? = some (.cells #[.int .i64 a0_0, .int .i64 a0_1] 35 (0, 0))) ∧ (w'.heap[gb476]? = some (.cells #[.int .i64 a1_0, .int .i64 a1_1] 35 (0, 0))) ∧ (Below w.heap.size w w')) ?_ ?_
             rotate_left
             ·intro hJ5_8_9
              refine join_ (σ := Nat) 10 #[true, true, true, true, true, true, true, true, true, false, true, true, true, true, true, false, true, true, false, false, false, false, false, false, true, false, false] (fun s_ => [(21, .int .u64 t479), (24, .int .u64 t480), (6, .pointer (some ⟨s_, 0, none⟩))]) (fun s_ w' => (w'.cell? ⟨gb475, 0, none⟩ = some (.int .i64 a0_0) ∧ w'.cell? ⟨gb475, 1, none⟩ = some (.int .i64 a0_1) ∧ w'.cell? ⟨gb476, 0, none⟩ = some (.int .i64 a1_0) ∧ w'.cell? ⟨gb476, 1, none⟩ = some (.int .i64 a1_1)) ∧ (w'.heap[gb475]? = some (.cells #[.int .i64 a0_0, .int .i64 a0_1] 35 (0, 0))) ∧ (w'.heap[gb476]? = some (.cells #[.int .i64 a1_0, .int .i64 a1_1] 35 (0, 0))) ∧ (w'.heap[s_]? = some (.cells #[.int .u64 0, .int .u64 0] 61 (0, 0))) ∧ (w.heap.size ≤ s_) ∧ (w.heap.size ≤ s_) ∧ (gb475 ≠ s_) ∧ (s_ ≠ gb475) ∧ (gb476 ≠ s_) ∧ (s_ ≠ gb476) ∧ (Below w.heap.size w w')) ?_ ?_
              rotate_left
              ·intro hJ5_8_24
               refine join_ (σ := Unit) 11 #[true, true, true, true, true, true, true, true, true, false, true, true, true, true, true, false, true, true, false, false, false, false, false, false, false, false, false] (fun s_ => [(21, .int .u64 t479), (24, .int .u64 t480)]) (fun s_ w' => (w'.cell? ⟨gb475, 0, none⟩ = some (.int .i64 a0_0) ∧ w'.cell? ⟨gb475, 1, none⟩ = some (.int .i64 a0_1) ∧ w'.cell? ⟨gb476, 0, none⟩ = some (.int .i64 a1_0) ∧ w'.cell? ⟨gb476, 1, none⟩ = some (.int .i64 a1_1)) ∧ (w'.heap[gb475]? = some (.cells #[.int .i64 a0_0, .int .i64 a0_1] 35 (0, 0))) ∧ (w'.heap[gb476]? = some (.cells #[.int .i64 a1_0, .int .i64 a1_1] 35 (0, 0))) ∧ (Below w.heap.size w w')) ?_ ?_
               rotate_left
               ·intro hJ5_8
                refine join_ (σ := Nat) 11 #[true, true, true, true, true, true, true, true, false, false, true, true, true, true, true, false, true, true, false, false, false, false, false, false, true, false, false] (fun s_ => [(21, .int .u64 t479), (6, .pointer (some ⟨s_, 0, none⟩))]) (fun s_ w' => (w'.cell? ⟨gb475, 0, none⟩ = some (.int .i64 a0_0) ∧ w'.cell? ⟨gb475, 1, none⟩ = some (.int .i64 a0_1) ∧ w'.cell? ⟨gb476, 0, none⟩ = some (.int .i64 a1_0) ∧ w'.cell? ⟨gb476, 1, none⟩ = some (.int .i64 a1_1)) ∧ (w'.heap[gb475]? = some (.cells #[.int .i64 a0_0, .int .i64 a0_1] 35 (0, 0))) ∧ (w'.heap[gb476]? = some (.cells #[.int .i64 a1_0, .int .i64 a1_1] 35 (0, 0))) ∧ (w'.heap[s_]? = some (.cells #[.int .u64 0, .int .u64 0] 61 (0, 0))) ∧ (w.heap.size ≤ s_) ∧ (w.heap.size ≤ s_) ∧ (gb475 ≠ s_) ∧ (s_ ≠ gb475) ∧ (gb476 ≠ s_) ∧ (s_ ≠ gb476) ∧ (Below w.heap.size w w')) ?_ ?_
                rotate_left
                ·intro hJ5_24
                 refine join_ (σ := Unit) 12 #[true, true, true, true, true, true, true, true, false, false, true, true, true, true, true, false, true, true, false, false, false, false, false, false, false, false, false] (fun s_ => [(21, .int .u64 t479)]) (fun s_ w' => (w'.cell? ⟨gb475, 0, none⟩ = some (.int .i64 a0_0) ∧ w'.cell? ⟨gb475, 1, none⟩ = some (.int .i64 a0_1) ∧ w'.cell? ⟨gb476, 0, none⟩ = some (.int .i64 a1_0) ∧ w'.cell? ⟨gb476, 1, none⟩ = some (.int .i64 a1_1)) ∧ (w'.heap[gb475]? = some (.cells #[.int .i64 a0_0, .int .i64 a0_1] 35 (0, 0))) ∧ (w'.heap[gb476]? = some (.cells #[.int .i64 a1_0, .int .i64 a1_1] 35 (0, 0))) ∧ (Below w.heap.size w w')) ?_ ?_
                 rotate_left
                 ·intro hJ5
                  refine join_ (σ := Nat) 12 #[true, true, true, true, true, false, true, true, false, false, true, true, true, true, true, false, true, true, false, false, false, false, false, false, true, false, false] (fun s_ => [(6, .pointer (some ⟨s_, 0, none⟩))]) (fun s_ w' => (w'.cell? ⟨gb475, 0, none⟩ = some (.int .i64 a0_0) ∧ w'.cell? ⟨gb475, 1, none⟩ = some (.int .i64 a0_1) ∧ w'.cell? ⟨gb476, 0, none⟩ = some (.int .i64 a1_0) ∧ w'.cell? ⟨gb476, 1, none⟩ = some (.int .i64 a1_1)) ∧ (w'.heap[gb475]? = some (.cells #[.int .i64 a0_0, .int .i64 a0_1] 35 (0, 0))) ∧ (w'.heap[gb476]? = some (.cells #[.int .i64 a1_0, .int .i64 a1_1] 35 (0, 0))) ∧ (w'.heap[s_]? = some (.cells #[.int .u64 0, .int .u64 0] 61 (0, 0))) ∧ (w.heap.size ≤ s_) ∧ (w.heap.size ≤ s_) ∧ (gb475 ≠ s_) ∧ (s_ ≠ gb475) ∧ (gb476 ≠ s_) ∧ (s_ ≠ gb476) ∧ (Below w.heap.size w w')) ?_ ?_
                  rotate_left
                  ·intro hJ24
                   refine two_ (i := 5) (j := 24) (Ni := some 21) (Nj := some 6) #[true, true, true, true, true, true, true, true, false, false, true, true, true, true, true, false, true, true, false, false, false, false, false, false, false, false, false] #[true, true, true, true, true, false, true, true, false, false, true, true, true, true, true, false, true, true, false, false, false, false, false, false, true, false, false] rfl rfl rfl rfl (two_of HT_.out (by kernel_rfl)) (by decide) (by decide) (fun K hK => ?_) (fun K hK => ?_)
                   ·skip
                    refine goes_ Try.func51 (by kernel_rfl) rfl #[.int .i64 a0_0] (by rfl) rfl rfl (by (try simp only [List.map_toArray, List.map_cons, List.map_nil]); first | done | rfl | (simp only [List.length_drop, List.length_take]; rfl)) ?_
                    with_reducible refine (awardingbodyref01_Size.calls a0_0 t479 _ A18.out).mono ?_
                    rintro e w' ⟨rfl, ⟨nd, rfl⟩⟩
                    refine ⟨_, rfl, ?_⟩
                    refine hK.out _ _ ⟨(blk_cell BK475.out 0).trans rfl, (blk_cell BK475.out 1).trans rfl, (blk_cell BK476.out 0).trans rfl, (blk_cell BK476.out 1).trans rfl⟩ (fun hHeld => ?_)
                    clear hK K
                    refine norm_ (a' := ?_) ?_ ?_
                    rotate_left
                    ·show Act.put _ (some 21) _ = _
                     simp only [Act.put, List.setIfInBounds_toArray, List.set_cons_zero, List.set_cons_succ, i64_w, i32_w]
                     rfl
                    exact norm_ (by first | (simp only [putAll, Act.put, List.setIfInBounds_toArray, List.set_cons_zero, List.set_cons_succ]; done) | (simp only [putAll, Act.put, List.setIfInBounds_toArray, List.set_cons_zero, List.set_cons_succ]; rfl)) (hJ5 () _ ⟨hHeld, (bq BK475), (bq BK476), (bw HB)⟩)
                   ·skip
                    refine box_step ?hg (N := 6) ?hd (cs := #[.int .u64 0, .int .u64 0]) (t := 61) ?hr ?_; (case hd => rfl); (case hg => rfl); (case hr => first | (go_simp; done) | (go_simp; rfl))
                    intro gb490 hg w27 hbox hb
                    have n0_ := kb BK475 hb
                    have n1_ := kb BK476 hb
                    have n2_ := wb HB hb
                    have n3_ := Aside0.mk (hbox)
                    have n4_ := gs HB hg
                    have n5_ := gs HB hg
                    have n6_ := nl BK475 hg
                    have n7_ := nr BK475 hg
                    have n8_ := nl BK476 hg
                    have n9_ := nr BK476 hg
                    clear BK475
                    clear BK476
                    clear HB
                    have BK475 := n0_
                    have BK476 := n1_
                    have HB := n2_
                    have BK490 := n3_
                    have GW490 := n4_
                    have GE490 := n5_
                    have NB475_490 := n6_
                    have NB490_475 := n7_
                    have NB476_490 := n8_
                    have NB490_476 := n9_
                    clear n0_ n1_ n2_ n3_ n4_ n5_ n6_ n7_ n8_ n9_
                    clear hb hbox hg
                    refine hK.out _ _ ⟨(blk_cell BK475.out 0).trans rfl, (blk_cell BK475.out 1).trans rfl, (blk_cell BK476.out 0).trans rfl, (blk_cell BK476.out 1).trans rfl⟩ (fun hHeld => ?_)
                    clear hK K
                    refine norm_ (a' := ?_) ?_ ?_
                    rotate_left
                    ·show Act.put _ (some 6) _ = _
                     simp only [Act.put, List.setIfInBounds_toArray, List.set_cons_zero, List.set_cons_succ, i64_w, i32_w]
                     rfl
                    exact norm_ (by first | (simp only [putAll, Act.put, List.setIfInBounds_toArray, List.set_cons_zero, List.set_cons_succ]; done) | (simp only [putAll, Act.put, List.setIfInBounds_toArray, List.set_cons_zero, List.set_cons_succ]; rfl)) (hJ24 (gb490) _ ⟨hHeld, (bq BK475), (bq BK476), (bq BK490), GW490.out, GE490.out, NB475_490.out, NB490_475.out, NB476_490.out, NB490_476.out, (bw HB)⟩)
                  ·skip
                   rintro gb490 w28 ⟨hS_, h0_, h1_, h2_, h3_, h4_, h5_, h6_, h7_, h8_, h9_⟩
                   have n0_ : Aside0 (w28.heap[gb475]? = some (.cells #[.int .i64 a0_0, .int .i64 a0_1] 35 (0, 0))) := ⟨h0_⟩
                   have n1_ : Aside0 (w28.heap[gb476]? = some (.cells #[.int .i64 a1_0, .int .i64 a1_1] 35 (0, 0))) := ⟨h1_⟩
                   have n2_ : Aside0 (w28.heap[gb490]? = some (.cells #[.int .u64 0, .int .u64 0] 61 (0, 0))) := ⟨h2_⟩
                   have n3_ : Aside0 (w.heap.size ≤ gb490) := ⟨h3_⟩
                   have n4_ : Aside0 (w.heap.size ≤ gb490) := ⟨h4_⟩
                   have n5_ : Aside0 (gb475 ≠ gb490) := ⟨h5_⟩
                   have n6_ : Aside0 (gb490 ≠ gb475) := ⟨h6_⟩
                   have n7_ : Aside0 (gb476 ≠ gb490) := ⟨h7_⟩
                   have n8_ : Aside0 (gb490 ≠ gb476) := ⟨h8_⟩
                   have n9_ : Aside0 (Below w.heap.size w w28) := ⟨h9_⟩
                   clear BK475
                   clear BK476
                   clear HB
                   clear h0_ h1_ h2_ h3_ h4_ h5_ h6_ h7_ h8_ h9_
                   have BK475 := n0_
                   have BK476 := n1_
                   have BK490 := n2_
                   have GW490 := n3_
                   have GE490 := n4_
                   have NB475_490 := n5_
                   have NB490_475 := n6_
                   have NB476_490 := n7_
                   have NB490_476 := n8_
                   have HB := n9_
                   clear n0_ n1_ n2_ n3_ n4_ n5_ n6_ n7_ n8_ n9_
                   have hHeld : w28.cell? ⟨gb475, 0, none⟩ = some (.int .i64 a0_0) ∧ w28.cell? ⟨gb475, 1, none⟩ = some (.int .i64 a0_1) ∧ w28.cell? ⟨gb476, 0, none⟩ = some (.int .i64 a1_0) ∧ w28.cell? ⟨gb476, 1, none⟩ = some (.int .i64 a1_1) := hS_
                   refine norm_ (a' := ?_) ?_ ?_
                   rotate_left
                   ·simp only [putAll, Act.put, List.setIfInBounds_toArray, List.set_cons_zero, List.set_cons_succ]
                    rfl
                   refine one_ (i := 5) (N := some 21) #[true, true, true, true, true, true, true, true, false, false, true, true, true, true, true, false, true, true, false, false, false, false, false, false, true, false, false] rfl rfl (one_of HT_.out (by kernel_rfl)) (by decide) (fun K hK => ?_)
                   refine goes_ Try.func51 (by kernel_rfl) rfl #[.int .i64 a0_0] (by rfl) rfl rfl (by (try simp only [List.map_toArray, List.map_cons, List.map_nil]); first | done | rfl | (simp only [List.length_drop, List.length_take]; rfl)) ?_
                   with_reducible refine (awardingbodyref01_Size.calls a0_0 t479 _ A18.out).mono ?_
                   rintro e w' ⟨rfl, ⟨nd, rfl⟩⟩
                   refine ⟨_, rfl, ?_⟩
                   refine hK.out _ _ ⟨(blk_cell BK475.out 0).trans rfl, (blk_cell BK475.out 1).trans rfl, (blk_cell BK476.out 0).trans rfl, (blk_cell BK476.out 1).trans rfl⟩ (fun hHeld => ?_)
                   clear hK K
                   refine norm_ (a' := ?_) ?_ ?_
                   rotate_left
                   ·show Act.put _ (some 21) _ = _
                    simp only [Act.put, List.setIfInBounds_toArray, List.set_cons_zero, List.set_cons_succ, i64_w, i32_w]
                    rfl
                   exact norm_ (by first | (simp only [putAll, Act.put, List.setIfInBounds_toArray, List.set_cons_zero, List.set_cons_succ]; done) | (simp only [putAll, Act.put, List.setIfInBounds_toArray, List.set_cons_zero, List.set_cons_succ]; rfl)) (hJ5_24 (gb490) _ ⟨hHeld, (bq BK475), (bq BK476), (bq BK490), GW490.out, GE490.out, NB475_490.out, NB490_475.out, NB476_490.out, NB490_476.out, (bw HB)⟩)
                 ·skip
                  rintro _ w27 ⟨hS_, h0_, h1_, h2_⟩
                  have n0_ : Aside0 (w27.heap[gb475]? = some (.cells #[.int .i64 a0_0, .int .i64 a0_1] 35 (0, 0))) := ⟨h0_⟩
                  have n1_ : Aside0 (w27.heap[gb476]? = some (.cells #[.int .i64 a1_0, .int .i64 a1_1] 35 (0, 0))) := ⟨h1_⟩
                  have n2_ : Aside0 (Below w.heap.size w w27) := ⟨h2_⟩
                  clear BK475
                  clear BK476
                  clear HB
                  clear h0_ h1_ h2_
                  have BK475 := n0_
                  have BK476 := n1_
                  have HB := n2_
                  clear n0_ n1_ n2_
                  have hHeld : w27.cell? ⟨gb475, 0, none⟩ = some (.int .i64 a0_0) ∧ w27.cell? ⟨gb475, 1, none⟩ = some (.int .i64 a0_1) ∧ w27.cell? ⟨gb476, 0, none⟩ = some (.int .i64 a1_0) ∧ w27.cell? ⟨gb476, 1, none⟩ = some (.int .i64 a1_1) := hS_
                  refine norm_ (a' := ?_) ?_ ?_
                  rotate_left
                  ·simp only [putAll, Act.put, List.setIfInBounds_toArray, List.set_cons_zero, List.set_cons_succ]
                   rfl
                  refine two_ (i := 8) (j := 24) (Ni := some 24) (Nj := some 6) #[true, true, true, true, true, true, true, true, true, false, true, true, true, true, true, false, true, true, false, false, false, false, false, false, false, false, false] #[true, true, true, true, true, true, true, true, false, false, true, true, true, true, true, false, true, true, false, false, false, false, false, false, true, false, false] rfl rfl rfl rfl (two_of HT_.out (by kernel_rfl)) (by decide) (by decide) (fun K hK => ?_) (fun K hK => ?_)
                  ·skip
                   refine goes_ Try.func51 (by kernel_rfl) rfl #[.int .i64 a1_1] (by rfl) rfl rfl (by (try simp only [List.map_toArray, List.map_cons, List.map_nil]); first | done | rfl | (simp only [List.length_drop, List.length_take]; rfl)) ?_
                   with_reducible refine (awardingbodyref01_Size.calls a1_1 t480 _ A19.out).mono ?_
                   rintro e w' ⟨rfl, ⟨nd, rfl⟩⟩
                   refine ⟨_, rfl, ?_⟩
                   refine hK.out _ _ ⟨(blk_cell BK475.out 0).trans rfl, (blk_cell BK475.out 1).trans rfl, (blk_cell BK476.out 0).trans rfl, (blk_cell BK476.out 1).trans rfl⟩ (fun hHeld => ?_)
                   clear hK K
                   refine norm_ (a' := ?_) ?_ ?_
                   rotate_left
                   ·show Act.put _ (some 24) _ = _
                    simp only [Act.put, List.setIfInBounds_toArray, List.set_cons_zero, List.set_cons_succ, i64_w, i32_w]
                    rfl
                   exact norm_ (by first | (simp only [putAll, Act.put, List.setIfInBounds_toArray, List.set_cons_zero, List.set_cons_succ]; done) | (simp only [putAll, Act.put, List.setIfInBounds_toArray, List.set_cons_zero, List.set_cons_succ]; rfl)) (hJ5_8 () _ ⟨hHeld, (bq BK475), (bq BK476), (bw HB)⟩)
                  ·skip
                   refine box_step ?hg (N := 6) ?hd (cs := #[.int .u64 0, .int .u64 0]) (t := 61) ?hr ?_; (case hd => rfl); (case hg => rfl); (case hr => first | (go_simp; done) | (go_simp; rfl))
                   intro gb490 hg w28 hbox hb
                   have n0_ := kb BK475 hb
                   have n1_ := kb BK476 hb
                   have n2_ := wb HB hb
                   have n3_ := Aside0.mk (hbox)
                   have n4_ := gs HB hg
                   have n5_ := gs HB hg
                   have n6_ := nl BK475 hg
                   have n7_ := nr BK475 hg
                   have n8_ := nl BK476 hg
                   have n9_ := nr BK476 hg
                   clear BK475
                   clear BK476
                   clear HB
                   have BK475 := n0_
                   have BK476 := n1_
                   have HB := n2_
                   have BK490 := n3_
                   have GW490 := n4_
                   have GE490 := n5_
                   have NB475_490 := n6_
                   have NB490_475 := n7_
                   have NB476_490 := n8_
                   have NB490_476 := n9_
                   clear n0_ n1_ n2_ n3_ n4_ n5_ n6_ n7_ n8_ n9_
                   clear hb hbox hg
                   refine hK.out _ _ ⟨(blk_cell BK475.out 0).trans rfl, (blk_cell BK475.out 1).trans rfl, (blk_cell BK476.out 0).trans rfl, (blk_cell BK476.out 1).trans rfl⟩ (fun hHeld => ?_)
                   clear hK K
                   refine norm_ (a' := ?_) ?_ ?_
                   rotate_left
                   ·show Act.put _ (some 6) _ = _
                    simp only [Act.put, List.setIfInBounds_toArray, List.set_cons_zero, List.set_cons_succ, i64_w, i32_w]
                    rfl
                   exact norm_ (by first | (simp only [putAll, Act.put, List.setIfInBounds_toArray, List.set_cons_zero, List.set_cons_succ]; done) | (simp only [putAll, Act.put, List.setIfInBounds_toArray, List.set_cons_zero, List.set_cons_succ]; rfl)) (hJ5_24 (gb490) _ ⟨hHeld, (bq BK475), (bq BK476), (bq BK490), GW490.out, GE490.out, NB475_490.out, NB490_475.out, NB476_490.out, NB490_476.out, (bw HB)⟩)
                ·skip
                 rintro gb490 w28 ⟨hS_, h0_, h1_, h2_, h3_, h4_, h5_, h6_, h7_, h8_, h9_⟩
                 have n0_ : Aside0 (w28.heap[gb475]? = some (.cells #[.int .i64 a0_0, .int .i64 a0_1] 35 (0, 0))) := ⟨h0_⟩
                 have n1_ : Aside0 (w28.heap[gb476]? = some (.cells #[.int .i64 a1_0, .int .i64 a1_1] 35 (0, 0))) := ⟨h1_⟩
                 have n2_ : Aside0 (w28.heap[gb490]? = some (.cells #[.int .u64 0, .int .u64 0] 61 (0, 0))) := ⟨h2_⟩
                 have n3_ : Aside0 (w.heap.size ≤ gb490) := ⟨h3_⟩
                 have n4_ : Aside0 (w.heap.size ≤ gb490) := ⟨h4_⟩
                 have n5_ : Aside0 (gb475 ≠ gb490) := ⟨h5_⟩
                 have n6_ : Aside0 (gb490 ≠ gb475) := ⟨h6_⟩
                 have n7_ : Aside0 (gb476 ≠ gb490) := ⟨h7_⟩
                 have n8_ : Aside0 (gb490 ≠ gb476) := ⟨h8_⟩
                 have n9_ : Aside0 (Below w.heap.size w w28) := ⟨h9_⟩
                 clear BK475
                 clear BK476
                 clear HB
                 clear h0_ h1_ h2_ h3_ h4_ h5_ h6_ h7_ h8_ h9_
                 have BK475 := n0_
                 have BK476 := n1_
                 have BK490 := n2_
                 have GW490 := n3_
                 have GE490 := n4_
                 have NB475_490 := n5_
                 have NB490_475 := n6_
                 have NB476_490 := n7_
                 have NB490_476 := n8_
                 have HB := n9_
                 clear n0_ n1_ n2_ n3_ n4_ n5_ n6_ n7_ n8_ n9_
                 have hHeld : w28.cell? ⟨gb475, 0, none⟩ = some (.int .i64 a0_0) ∧ w28.cell? ⟨gb475, 1, none⟩ = some (.int .i64 a0_1) ∧ w28.cell? ⟨gb476, 0, none⟩ = some (.int .i64 a1_0) ∧ w28.cell? ⟨gb476, 1, none⟩ = some (.int .i64 a1_1) := hS_
                 refine norm_ (a' := ?_) ?_ ?_
                 rotate_left
                 ·simp only [putAll, Act.put, List.setIfInBounds_toArray, List.set_cons_zero, List.set_cons_succ]
                  rfl
                 refine one_ (i := 8) (N := some 24) #[true, true, true, true, true, true, true, true, true, false, true, true, true, true, true, false, true, true, false, false, false, false, false, false, true, false, false] rfl rfl (one_of HT_.out (by kernel_rfl)) (by decide) (fun K hK => ?_)
                 refine goes_ Try.func51 (by kernel_rfl) rfl #[.int .i64 a1_1] (by rfl) rfl rfl (by (try simp only [List.map_toArray, List.map_cons, List.map_nil]); first | done | rfl | (simp only [List.length_drop, List.length_take]; rfl)) ?_
                 with_reducible refine (awardingbodyref01_Size.calls a1_1 t480 _ A19.out).mono ?_
                 rintro e w' ⟨rfl, ⟨nd, rfl⟩⟩
                 refine ⟨_, rfl, ?_⟩
                 refine hK.out _ _ ⟨(blk_cell BK475.out 0).trans rfl, (blk_cell BK475.out 1).trans rfl, (blk_cell BK476.out 0).trans rfl, (blk_cell BK476.out 1).trans rfl⟩ (fun hHeld => ?_)
                 clear hK K
                 refine norm_ (a' := ?_) ?_ ?_
                 rotate_left
                 ·show Act.put _ (some 24) _ = _
                  simp only [Act.put, List.setIfInBounds_toArray, List.set_cons_zero, List.set_cons_succ, i64_w, i32_w]
                  rfl
                 exact norm_ (by first | (simp only [putAll, Act.put, List.setIfInBounds_toArray, List.set_cons_zero, List.set_cons_succ]; done) | (simp only [putAll, Act.put, List.setIfInBounds_toArray, List.set_cons_zero, List.set_cons_succ]; rfl)) (hJ5_8_24 (gb490) _ ⟨hHeld, (bq BK475), (bq BK476), (bq BK490), GW490.out, GE490.out, NB475_490.out, NB490_475.out, NB476_490.out, NB490_476.out, (bw HB)⟩)
               ·skip
                rintro _ w27 ⟨hS_, h0_, h1_, h2_⟩
                have n0_ : Aside0 (w27.heap[gb475]? = some (.cells #[.int .i64 a0_0, .int .i64 a0_1] 35 (0, 0))) := ⟨h0_⟩
                have n1_ : Aside0 (w27.heap[gb476]? = some (.cells #[.int .i64 a1_0, .int .i64 a1_1] 35 (0, 0))) := ⟨h1_⟩
                have n2_ : Aside0 (Below w.heap.size w w27) := ⟨h2_⟩
                clear BK475
                clear BK476
                clear HB
                clear h0_ h1_ h2_
                have BK475 := n0_
                have BK476 := n1_
                have HB := n2_
                clear n0_ n1_ n2_
                have hHeld : w27.cell? ⟨gb475, 0, none⟩ = some (.int .i64 a0_0) ∧ w27.cell? ⟨gb475, 1, none⟩ = some (.int .i64 a0_1) ∧ w27.cell? ⟨gb476, 0, none⟩ = some (.int .i64 a1_0) ∧ w27.cell? ⟨gb476, 1, none⟩ = some (.int .i64 a1_1) := hS_
                refine norm_ (a' := ?_) ?_ ?_
                rotate_left
                ·simp only [putAll, Act.put, List.setIfInBounds_toArray, List.set_cons_zero, List.set_cons_succ]
                 rfl
                refine two_ (i := 9) (j := 24) (Ni := some 25) (Nj := some 6) #[true, true, true, true, true, true, true, true, true, true, true, true, true, true, true, false, true, true, false, false, false, false, false, false, false, false, false] #[true, true, true, true, true, true, true, true, true, false, true, true, true, true, true, false, true, true, false, false, false, false, false, false, true, false, false] rfl rfl rfl rfl (two_of HT_.out (by kernel_rfl)) (by decide) (by decide) (fun K hK => ?_) (fun K hK => ?_)
                ·skip
                 refine goes_ Try.func58 (by kernel_rfl) rfl #[.int .u64 t479, .int .u64 t480] (by rfl) rfl rfl (by (try simp only [List.map_toArray, List.map_cons, List.map_nil]); first | done | rfl | (simp only [List.length_drop, List.length_take]; rfl)) ?_
                 with_reducible refine (awardingbodyref01_Product.calls t479 t480 t481 t482 _ A20.out).mono ?_
                 rintro e w28 ⟨rfl, hb⟩
                 refine ⟨_, rfl, ?_⟩
                 have n0_ := kb BK475 hb
                 have n1_ := kb BK476 hb
                 have n2_ := wb HB hb
                 clear BK475
                 clear BK476
                 clear HB
                 have BK475 := n0_
                 have BK476 := n1_
                 have HB := n2_
                 clear n0_ n1_ n2_
                 (try clear hb)
                 (try clear hb2)
                 (try clear hk)
                 (try clear hi)
                 refine hK.out _ _ ⟨(blk_cell BK475.out 0).trans rfl, (blk_cell BK475.out 1).trans rfl, (blk_cell BK476.out 0).trans rfl, (blk_cell BK476.out 1).trans rfl⟩ (fun hHeld => ?_)
                 clear hK K
                 refine norm_ (a' := ?_) ?_ ?_
                 rotate_left
                 ·show Act.put _ (some 25) _ = _
                  simp only [Act.put, List.setIfInBounds_toArray, List.set_cons_zero, List.set_cons_succ, i64_w, i32_w]
                  rfl
                 exact norm_ (by first | (simp only [putAll, Act.put, List.setIfInBounds_toArray, List.set_cons_zero, List.set_cons_succ]; done) | (simp only [putAll, Act.put, List.setIfInBounds_toArray, List.set_cons_zero, List.set_cons_succ]; rfl)) (hJ5_8_9 () _ ⟨hHeld, (bq BK475), (bq BK476), (bw HB)⟩)
                ·skip
                 refine box_step ?hg (N := 6) ?hd (cs := #[.int .u64 0, .int .u64 0]) (t := 61) ?hr ?_; (case hd => rfl); (case hg => rfl); (case hr => first | (go_simp; done) | (go_simp; rfl))
                 intro gb490 hg w28 hbox hb
                 have n0_ := kb BK475 hb
                 have n1_ := kb BK476 hb
                 have n2_ := wb HB hb
                 have n3_ := Aside0.mk (hbox)
                 have n4_ := gs HB hg
                 have n5_ := gs HB hg
                 have n6_ := nl BK475 hg
                 have n7_ := nr BK475 hg
                 have n8_ := nl BK476 hg
                 have n9_ := nr BK476 hg
                 clear BK475
                 clear BK476
                 clear HB
                 have BK475 := n0_
                 have BK476 := n1_
                 have HB := n2_
                 have BK490 := n3_
                 have GW490 := n4_
                 have GE490 := n5_
                 have NB475_490 := n6_
                 have NB490_475 := n7_
                 have NB476_490 := n8_
                 have NB490_476 := n9_
                 clear n0_ n1_ n2_ n3_ n4_ n5_ n6_ n7_ n8_ n9_
                 clear hb hbox hg
                 refine hK.out _ _ ⟨(blk_cell BK475.out 0).trans rfl, (blk_cell BK475.out 1).trans rfl, (blk_cell BK476.out 0).trans rfl, (blk_cell BK476.out 1).trans rfl⟩ (fun hHeld => ?_)
                 clear hK K
                 refine norm_ (a' := ?_) ?_ ?_
                 rotate_left
                 ·show Act.put _ (some 6) _ = _
                  simp only [Act.put, List.setIfInBounds_toArray, List.set_cons_zero, List.set_cons_succ, i64_w, i32_w]
                  rfl
                 exact norm_ (by first | (simp only [putAll, Act.put, List.setIfInBounds_toArray, List.set_cons_zero, List.set_cons_succ]; done) | (simp only [putAll, Act.put, List.setIfInBounds_toArray, List.set_cons_zero, List.set_cons_succ]; rfl)) (hJ5_8_24 (gb490) _ ⟨hHeld, (bq BK475), (bq BK476), (bq BK490), GW490.out, GE490.out, NB475_490.out, NB490_475.out, NB476_490.out, NB490_476.out, (bw HB)⟩)
              ·skip
               rintro gb490 w28 ⟨hS_, h0_, h1_, h2_, h3_, h4_, h5_, h6_, h7_, h8_, h9_⟩
               have n0_ : Aside0 (w28.heap[gb475]? = some (.cells #[.int .i64 a0_0, .int .i64 a0_1] 35 (0, 0))) := ⟨h0_⟩
               have n1_ : Aside0 (w28.heap[gb476]? = some (.cells #[.int .i64 a1_0, .int .i64 a1_1] 35 (0, 0))) := ⟨h1_⟩
               have n2_ : Aside0 (w28.heap[gb490]? = some (.cells #[.int .u64 0, .int .u64 0] 61 (0, 0))) := ⟨h2_⟩
               have n3_ : Aside0 (w.heap.size ≤ gb490) := ⟨h3_⟩
               have n4_ : Aside0 (w.heap.size ≤ gb490) := ⟨h4_⟩
               have n5_ : Aside0 (gb475 ≠ gb490) := ⟨h5_⟩
               have n6_ : Aside0 (gb490 ≠ gb475) := ⟨h6_⟩
               have n7_ : Aside0 (gb476 ≠ gb490) := ⟨h7_⟩
               have n8_ : Aside0 (gb490 ≠ gb476) := ⟨h8_⟩
               have n9_ : Aside0 (Below w.heap.size w w28) := ⟨h9_⟩
               clear BK475
               clear BK476
               clear HB
               clear h0_ h1_ h2_ h3_ h4_ h5_ h6_ h7_ h8_ h9_
               have BK475 := n0_
               have BK476 := n1_
               have BK490 := n2_
               have GW490 := n3_
               have GE490 := n4_
               have NB475_490 := n5_
               have NB490_475 := n6_
               have NB476_490 := n7_
               have NB490_476 := n8_
               have HB := n9_
               clear n0_ n1_ n2_ n3_ n4_ n5_ n6_ n7_ n8_ n9_
               have hHeld : w28.cell? ⟨gb475, 0, none⟩ = some (.int .i64 a0_0) ∧ w28.cell? ⟨gb475, 1, none⟩ = some (.int .i64 a0_1) ∧ w28.cell? ⟨gb476, 0, none⟩ = some (.int .i64 a1_0) ∧ w28.cell? ⟨gb476, 1, none⟩ = some (.int .i64 a1_1) := hS_
               refine norm_ (a' := ?_) ?_ ?_
               rotate_left
               ·simp only [putAll, Act.put, List.setIfInBounds_toArray, List.set_cons_zero, List.set_cons_succ]
                rfl
               refine one_ (i := 9) (N := some 25) #[true, true, true, true, true, true, true, true, true, true, true, true, true, true, true, false, true, true, false, false, false, false, false, false, true, false, false] rfl rfl (one_of HT_.out (by kernel_rfl)) (by decide) (fun K hK => ?_)
               refine goes_ Try.func58 (by kernel_rfl) rfl #[.int .u64 t479, .int .u64 t480] (by rfl) rfl rfl (by (try simp only [List.map_toArray, List.map_cons, List.map_nil]); first | done | rfl | (simp only [List.length_drop, List.length_take]; rfl)) ?_
               with_reducible refine (awardingbodyref01_Product.calls t479 t480 t481 t482 _ A20.out).mono ?_
               rintro e w29 ⟨rfl, hb⟩
               refine ⟨_, rfl, ?_⟩
               have n0_ := kb BK475 hb
               have n1_ := kb BK476 hb
               have n2_ := kb BK490 hb
               have n3_ := wb HB hb
               clear BK475
               clear BK476
               clear BK490
               clear HB
               have BK475 := n0_
               have BK476 := n1_
               have BK490 := n2_
               have HB := n3_
               clear n0_ n1_ n2_ n3_
               (try clear hb)
               (try clear hb2)
               (try clear hk)
               (try clear hi)
               refine hK.out _ _ ⟨(blk_cell BK475.out 0).trans rfl, (blk_cell BK475.out 1).trans rfl, (blk_cell BK476.out 0).trans rfl, (blk_cell BK476.out 1).trans rfl⟩ (fun hHeld => ?_)
               clear hK K
               refine norm_ (a' := ?_) ?_ ?_
               rotate_left
               ·show Act.put _ (some 25) _ = _
                simp only [Act.put, List.setIfInBounds_toArray, List.set_cons_zero, List.set_cons_succ, i64_w, i32_w]
                rfl
               exact norm_ (by first | (simp only [putAll, Act.put, List.setIfInBounds_toArray, List.set_cons_zero, List.set_cons_succ]; done) | (simp only [putAll, Act.put, List.setIfInBounds_toArray, List.set_cons_zero, List.set_cons_succ]; rfl)) (hJ5_8_9_24 (gb490) _ ⟨hHeld, (bq BK475), (bq BK476), (bq BK490), GW490.out, GE490.out, NB475_490.out, NB490_475.out, NB476_490.out, NB490_476.out, (bw HB)⟩)
             ·skip
              rintro _ w28 ⟨hS_, h0_, h1_, h2_⟩
              have n0_ : Aside0 (w28.heap[gb475]? = some (.cells #[.int .i64 a0_0, .int .i64 a0_1] 35 (0, 0))) := ⟨h0_⟩
              have n1_ : Aside0 (w28.heap[gb476]? = some (.cells #[.int .i64 a1_0, .int .i64 a1_1] 35 (0, 0))) := ⟨h1_⟩
              have n2_ : Aside0 (Below w.heap.size w w28) := ⟨h2_⟩
              clear BK475
              clear BK476
              clear HB
              clear h0_ h1_ h2_
              have BK475 := n0_
              have BK476 := n1_
              have HB := n2_
              clear n0_ n1_ n2_
              have hHeld : w28.cell? ⟨gb475, 0, none⟩ = some (.int .i64 a0_0) ∧ w28.cell? ⟨gb475, 1, none⟩ = some (.int .i64 a0_1) ∧ w28.cell? ⟨gb476, 0, none⟩ = some (.int .i64 a1_0) ∧ w28.cell? ⟨gb476, 1, none⟩ = some (.int .i64 a1_1) := hS_
              refine norm_ (a' := ?_) ?_ ?_
              rotate_left
              ·simp only [putAll, Act.put, List.setIfInBounds_toArray, List.set_cons_zero, List.set_cons_succ]
               rfl
              refine two_ (i := 15) (j := 24) (Ni := some 31) (Nj := some 6) #[true, true, true, true, true, true, true, true, true, true, true, true, true, true, true, true, true, true, false, false, false, false, false, false, false, false, false] #[true, true, true, true, true, true, true, true, true, true, true, true, true, true, true, false, true, true, false, false, false, false, false, false, true, false, false] rfl rfl rfl rfl (two_of HT_.out (by kernel_rfl)) (by decide) (by decide) (fun K hK => ?_) (fun K hK => ?_)
              ·skip
               refine goes_ Try.func51 (by kernel_rfl) rfl #[.int .i64 a1_0] (by rfl) rfl rfl (by (try simp only [List.map_toArray, List.map_cons, List.map_nil]); first | done | rfl | (simp only [List.length_drop, List.length_take]; rfl)) ?_
               with_reducible refine (awardingbodyref01_Size.calls a1_0 t483 _ A21.out).mono ?_
               rintro e w' ⟨rfl, ⟨nd, rfl⟩⟩
               refine ⟨_, rfl, ?_⟩
               refine hK.out _ _ ⟨(blk_cell BK475.out 0).trans rfl, (blk_cell BK475.out 1).trans rfl, (blk_cell BK476.out 0).trans rfl, (blk_cell BK476.out 1).trans rfl⟩ (fun hHeld => ?_)
               clear hK K
               refine norm_ (a' := ?_) ?_ ?_
               rotate_left
               ·show Act.put _ (some 31) _ = _
                simp only [Act.put, List.setIfInBounds_toArray, List.set_cons_zero, List.set_cons_succ, i64_w, i32_w]
                rfl
               exact norm_ (by first | (simp only [putAll, Act.put, List.setIfInBounds_toArray, List.set_cons_zero, List.set_cons_succ]; done) | (simp only [putAll, Act.put, List.setIfInBounds_toArray, List.set_cons_zero, List.set_cons_succ]; rfl)) (hJ5_8_9_15 () _ ⟨hHeld, (bq BK475), (bq BK476), (bw HB)⟩)
              ·skip
               refine box_step ?hg (N := 6) ?hd (cs := #[.int .u64 0, .int .u64 0]) (t := 61) ?hr ?_; (case hd => rfl); (case hg => rfl); (case hr => first | (go_simp; done) | (go_simp; rfl))
               intro gb490 hg w29 hbox hb
               have n0_ := kb BK475 hb
               have n1_ := kb BK476 hb
               have n2_ := wb HB hb
               have n3_ := Aside0.mk (hbox)
               have n4_ := gs HB hg
               have n5_ := gs HB hg
               have n6_ := nl BK475 hg
               have n7_ := nr BK475 hg
               have n8_ := nl BK476 hg
               have n9_ := nr BK476 hg
               clear BK475
               clear BK476
               clear HB
               have BK475 := n0_
               have BK476 := n1_
               have HB := n2_
               have BK490 := n3_
               have GW490 := n4_
               have GE490 := n5_
               have NB475_490 := n6_
               have NB490_475 := n7_
               have NB476_490 := n8_
               have NB490_476 := n9_
               clear n0_ n1_ n2_ n3_ n4_ n5_ n6_ n7_ n8_ n9_
               clear hb hbox hg
               refine hK.out _ _ ⟨(blk_cell BK475.out 0).trans rfl, (blk_cell BK475.out 1).trans rfl, (blk_cell BK476.out 0).trans rfl, (blk_cell BK476.out 1).trans rfl⟩ (fun hHeld => ?_)
               clear hK K
               refine norm_ (a' := ?_) ?_ ?_
               rotate_left
               ·show Act.put _ (some 6) _ = _
                simp only [Act.put, List.setIfInBounds_toArray, List.set_cons_zero, List.set_cons_succ, i64_w, i32_w]
                rfl
               exact norm_ (by first | (simp only [putAll, Act.put, List.setIfInBounds_toArray, List.set_cons_zero, List.set_cons_succ]; done) | (simp only [putAll, Act.put, List.setIfInBounds_toArray, List.set_cons_zero, List.set_cons_succ]; rfl)) (hJ5_8_9_24 (gb490) _ ⟨hHeld, (bq BK475), (bq BK476), (bq BK490), GW490.out, GE490.out, NB475_490.out, NB490_475.out, NB476_490.out, NB490_476.out, (bw HB)⟩)
            ·skip
             rintro gb490 w29 ⟨hS_, h0_, h1_, h2_, h3_, h4_, h5_, h6_, h7_, h8_, h9_⟩
             have n0_ : Aside0 (w29.heap[gb475]? = some (.cells #[.int .i64 a0_0, .int .i64 a0_1] 35 (0, 0))) := ⟨h0_⟩
             have n1_ : Aside0 (w29.heap[gb476]? = some (.cells #[.int .i64 a1_0, .int .i64 a1_1] 35 (0, 0))) := ⟨h1_⟩
             have n2_ : Aside0 (w29.heap[gb490]? = some (.cells #[.int .u64 0, .int .u64 0] 61 (0, 0))) := ⟨h2_⟩
             have n3_ : Aside0 (w.heap.size ≤ gb490) := ⟨h3_⟩
             have n4_ : Aside0 (w.heap.size ≤ gb490) := ⟨h4_⟩
             have n5_ : Aside0 (gb475 ≠ gb490) := ⟨h5_⟩
             have n6_ : Aside0 (gb490 ≠ gb475) := ⟨h6_⟩
             have n7_ : Aside0 (gb476 ≠ gb490) := ⟨h7_⟩
             have n8_ : Aside0 (gb490 ≠ gb476) := ⟨h8_⟩
             have n9_ : Aside0 (Below w.heap.size w w29) := ⟨h9_⟩
             clear BK475
             clear BK476
             clear HB
             clear h0_ h1_ h2_ h3_ h4_ h5_ h6_ h7_ h8_ h9_
             have BK475 := n0_
             have BK476 := n1_
             have BK490 := n2_
             have GW490 := n3_
             have GE490 := n4_
             have NB475_490 := n5_
             have NB490_475 := n6_
             have NB476_490 := n7_
             have NB490_476 := n8_
             have HB := n9_
             clear n0_ n1_ n2_ n3_ n4_ n5_ n6_ n7_ n8_ n9_
             have hHeld : w29.cell? ⟨gb475, 0, none⟩ = some (.int .i64 a0_0) ∧ w29.cell? ⟨gb475, 1, none⟩ = some (.int .i64 a0_1) ∧ w29.cell? ⟨gb476, 0, none⟩ = some (.int .i64 a1_0) ∧ w29.cell? ⟨gb476, 1, none⟩ = some (.int .i64 a1_1) := hS_
             refine norm_ (a' := ?_) ?_ ?_
             rotate_left
             ·simp only [putAll, Act.put, List.setIfInBounds_toArray, List.set_cons_zero, List.set_cons_succ]
              rfl
             refine one_ (i := 15) (N := some 31) #[true, true, true, true, true, true, true, true, true, true, true, true, true, true, true, true, true, true, false, false, false, false, false, false, true, false, false] rfl rfl (one_of HT_.out (by kernel_rfl)) (by decide) (fun K hK => ?_)
             refine goes_ Try.func51 (by kernel_rfl) rfl #[.int .i64 a1_0] (by rfl) rfl rfl (by (try simp only [List.map_toArray, List.map_cons, List.map_nil]); first | done | rfl | (simp only [List.length_drop, List.length_take]; rfl)) ?_
             with_reducible refine (awardingbodyref01_Size.calls a1_0 t483 _ A21.out).mono ?_
             rintro e w' ⟨rfl, ⟨nd, rfl⟩⟩
             refine ⟨_, rfl, ?_⟩
             refine hK.out _ _ ⟨(blk_cell BK475.out 0).trans rfl, (blk_cell BK475.out 1).trans rfl, (blk_cell BK476.out 0).trans rfl, (blk_cell BK476.out 1).trans rfl⟩ (fun hHeld => ?_)
             clear hK K
             refine norm_ (a' := ?_) ?_ ?_
             rotate_left
             ·show Act.put _ (some 31) _ = _
              simp only [Act.put, List.setIfInBounds_toArray, List.set_cons_zero, List.set_cons_succ, i64_w, i32_w]
              rfl
             exact norm_ (by first | (simp only [putAll, Act.put, List.setIfInBounds_toArray, List.set_cons_zero, List.set_cons_succ]; done) | (simp only [putAll, Act.put, List.setIfInBounds_toArray, List.set_cons_zero, List.set_cons_succ]; rfl)) (hJ5_8_9_15_24 (gb490) _ ⟨hHeld, (bq BK475), (bq BK476), (bq BK490), GW490.out, GE490.out, NB475_490.out, NB490_475.out, NB476_490.out, NB490_476.out, (bw HB)⟩)
           ·skip
            rintro _ w28 ⟨hS_, h0_, h1_, h2_⟩
            have n0_ : Aside0 (w28.heap[gb475]? = some (.cells #[.int .i64 a0_0, .int .i64 a0_1] 35 (0, 0))) := ⟨h0_⟩
            have n1_ : Aside0 (w28.heap[gb476]? = some (.cells #[.int .i64 a1_0, .int .i64 a1_1] 35 (0, 0))) := ⟨h1_⟩
            have n2_ : Aside0 (Below w.heap.size w w28) := ⟨h2_⟩
            clear BK475
            clear BK476
            clear HB
            clear h0_ h1_ h2_
            have BK475 := n0_
            have BK476 := n1_
            have HB := n2_
            clear n0_ n1_ n2_
            have hHeld : w28.cell? ⟨gb475, 0, none⟩ = some (.int .i64 a0_0) ∧ w28.cell? ⟨gb475, 1, none⟩ = some (.int .i64 a0_1) ∧ w28.cell? ⟨gb476, 0, none⟩ = some (.int .i64 a1_0) ∧ w28.cell? ⟨gb476, 1, none⟩ = some (.int .i64 a1_1) := hS_
            refine norm_ (a' := ?_) ?_ ?_
            rotate_left
            ·simp only [putAll, Act.put, List.setIfInBounds_toArray, List.set_cons_zero, List.set_cons_succ]
             rfl
            refine two_ (i := 18) (j := 24) (Ni := some 34) (Nj := some 6) #[true, true, true, true, true, true, true, true, true, true, true, true, true, true, true, true, true, true, true, false, false, false, false, false, false, false, false] #[true, true, true, true, true, true, true, true, true, true, true, true, true, true, true, true, true, true, false, false, false, false, false, false, true, false, false] rfl rfl rfl rfl (two_of HT_.out (by kernel_rfl)) (by decide) (by decide) (fun K hK => ?_) (fun K hK => ?_)
            ·skip
             refine goes_ Try.func51 (by kernel_rfl) rfl #[.int .i64 a0_1] (by rfl) rfl rfl (by (try simp only [List.map_toArray, List.map_cons, List.map_nil]); first | done | rfl | (simp only [List.length_drop, List.length_take]; rfl)) ?_
             with_reducible refine (awardingbodyref01_Size.calls a0_1 t484 _ A22.out).mono ?_
             rintro e w' ⟨rfl, ⟨nd, rfl⟩⟩
             refine ⟨_, rfl, ?_⟩
             refine hK.out _ _ ⟨(blk_cell BK475.out 0).trans rfl, (blk_cell BK475.out 1).trans rfl, (blk_cell BK476.out 0).trans rfl, (blk_cell BK476.out 1).trans rfl⟩ (fun hHeld => ?_)
             clear hK K
             refine norm_ (a' := ?_) ?_ ?_
             rotate_left
             ·show Act.put _ (some 34) _ = _
              simp only [Act.put, List.setIfInBounds_toArray, List.set_cons_zero, List.set_cons_succ, i64_w, i32_w]
              rfl
             exact norm_ (by first | (simp only [putAll, Act.put, List.setIfInBounds_toArray, List.set_cons_zero, List.set_cons_succ]; done) | (simp only [putAll, Act.put, List.setIfInBounds_toArray, List.set_cons_zero, List.set_cons_succ]; rfl)) (hJ5_8_9_15_18 () _ ⟨hHeld, (bq BK475), (bq BK476), (bw HB)⟩)
            ·skip
             refine box_step ?hg (N := 6) ?hd (cs := #[.int .u64 0, .int .u64 0]) (t := 61) ?hr ?_; (case hd => rfl); (case hg => rfl); (case hr => first | (go_simp; done) | (go_simp; rfl))
             intro gb490 hg w29 hbox hb
             have n0_ := kb BK475 hb
             have n1_ := kb BK476 hb
             have n2_ := wb HB hb
             have n3_ := Aside0.mk (hbox)
             have n4_ := gs HB hg
             have n5_ := gs HB hg
             have n6_ := nl BK475 hg
             have n7_ := nr BK475 hg
             have n8_ := nl BK476 hg
             have n9_ := nr BK476 hg
             clear BK475
             clear BK476
             clear HB
             have BK475 := n0_
             have BK476 := n1_
             have HB := n2_
             have BK490 := n3_
             have GW490 := n4_
             have GE490 := n5_
             have NB475_490 := n6_
             have NB490_475 := n7_
             have NB476_490 := n8_
             have NB490_476 := n9_
             clear n0_ n1_ n2_ n3_ n4_ n5_ n6_ n7_ n8_ n9_
             clear hb hbox hg
             refine hK.out _ _ ⟨(blk_cell BK475.out 0).trans rfl, (blk_cell BK475.out 1).trans rfl, (blk_cell BK476.out 0).trans rfl, (blk_cell BK476.out 1).trans rfl⟩ (fun hHeld => ?_)
             clear hK K
             refine norm_ (a' := ?_) ?_ ?_
             rotate_left
             ·show Act.put _ (some 6) _ = _
              simp only [Act.put, List.setIfInBounds_toArray, List.set_cons_zero, List.set_cons_succ, i64_w, i32_w]
              rfl
             exact norm_ (by first | (simp only [putAll, Act.put, List.setIfInBounds_toArray, List.set_cons_zero, List.set_cons_succ]; done) | (simp only [putAll, Act.put, List.setIfInBounds_toArray, List.set_cons_zero, List.set_cons_succ]; rfl)) (hJ5_8_9_15_24 (gb490) _ ⟨hHeld, (bq BK475), (bq BK476), (bq BK490), GW490.out, GE490.out, NB475_490.out, NB490_475.out, NB476_490.out, NB490_476.out, (bw HB)⟩)
          ·skip
           rintro gb490 w29 ⟨hS_, h0_, h1_, h2_, h3_, h4_, h5_, h6_, h7_, h8_, h9_⟩
           have n0_ : Aside0 (w29.heap[gb475]? = some (.cells #[.int .i64 a0_0, .int .i64 a0_1] 35 (0, 0))) := ⟨h0_⟩
           have n1_ : Aside0 (w29.heap[gb476]? = some (.cells #[.int .i64 a1_0, .int .i64 a1_1] 35 (0, 0))) := ⟨h1_⟩
           have n2_ : Aside0 (w29.heap[gb490]? = some (.cells #[.int .u64 0, .int .u64 0] 61 (0, 0))) := ⟨h2_⟩
           have n3_ : Aside0 (w.heap.size ≤ gb490) := ⟨h3_⟩
           have n4_ : Aside0 (w.heap.size ≤ gb490) := ⟨h4_⟩
           have n5_ : Aside0 (gb475 ≠ gb490) := ⟨h5_⟩
           have n6_ : Aside0 (gb490 ≠ gb475) := ⟨h6_⟩
           have n7_ : Aside0 (gb476 ≠ gb490) := ⟨h7_⟩
           have n8_ : Aside0 (gb490 ≠ gb476) := ⟨h8_⟩
           have n9_ : Aside0 (Below w.heap.size w w29) := ⟨h9_⟩
           clear BK475
           clear BK476
           clear HB
           clear h0_ h1_ h2_ h3_ h4_ h5_ h6_ h7_ h8_ h9_
           have BK475 := n0_
           have BK476 := n1_
           have BK490 := n2_
           have GW490 := n3_
           have GE490 := n4_
           have NB475_490 := n5_
           have NB490_475 := n6_
           have NB476_490 := n7_
           have NB490_476 := n8_
           have HB := n9_
           clear n0_ n1_ n2_ n3_ n4_ n5_ n6_ n7_ n8_ n9_
           have hHeld : w29.cell? ⟨gb475, 0, none⟩ = some (.int .i64 a0_0) ∧ w29.cell? ⟨gb475, 1, none⟩ = some (.int .i64 a0_1) ∧ w29.cell? ⟨gb476, 0, none⟩ = some (.int .i64 a1_0) ∧ w29.cell? ⟨gb476, 1, none⟩ = some (.int .i64 a1_1) := hS_
           refine norm_ (a' := ?_) ?_ ?_
           rotate_left
           ·simp only [putAll, Act.put, List.setIfInBounds_toArray, List.set_cons_zero, List.set_cons_succ]
            rfl
           refine one_ (i := 18) (N := some 34) #[true, true, true, true, true, true, true, true, true, true, true, true, true, true, true, true, true, true, true, false, false, false, false, false, true, false, false] rfl rfl (one_of HT_.out (by kernel_rfl)) (by decide) (fun K hK => ?_)
           refine goes_ Try.func51 (by kernel_rfl) rfl #[.int .i64 a0_1] (by rfl) rfl rfl (by (try simp only [List.map_toArray, List.map_cons, List.map_nil]); first | done | rfl | (simp only [List.length_drop, List.length_take]; rfl)) ?_
           with_reducible refine (awardingbodyref01_Size.calls a0_1 t484 _ A22.out).mono ?_
           rintro e w' ⟨rfl, ⟨nd, rfl⟩⟩
           refine ⟨_, rfl, ?_⟩
           refine hK.out _ _ ⟨(blk_cell BK475.out 0).trans rfl, (blk_cell BK475.out 1).trans rfl, (blk_cell BK476.out 0).trans rfl, (blk_cell BK476.out 1).trans rfl⟩ (fun hHeld => ?_)
           clear hK K
           refine norm_ (a' := ?_) ?_ ?_
           rotate_left
           ·show Act.put _ (some 34) _ = _
            simp only [Act.put, List.setIfInBounds_toArray, List.set_cons_zero, List.set_cons_succ, i64_w, i32_w]
            rfl
           exact norm_ (by first | (simp only [putAll, Act.put, List.setIfInBounds_toArray, List.set_cons_zero, List.set_cons_succ]; done) | (simp only [putAll, Act.put, List.setIfInBounds_toArray, List.set_cons_zero, List.set_cons_succ]; rfl)) (hJ5_8_9_15_18_24 (gb490) _ ⟨hHeld, (bq BK475), (bq BK476), (bq BK490), GW490.out, GE490.out, NB475_490.out, NB490_475.out, NB476_490.out, NB490_476.out, (bw HB)⟩)
         ·skip
          rintro _ w28 ⟨hS_, h0_, h1_, h2_⟩
          have n0_ : Aside0 (w28.heap[gb475]? = some (.cells #[.int .i64 a0_0, .int .i64 a0_1] 35 (0, 0))) := ⟨h0_⟩
          have n1_ : Aside0 (w28.heap[gb476]? = some (.cells #[.int .i64 a1_0, .int .i64 a1_1] 35 (0, 0))) := ⟨h1_⟩
          have n2_ : Aside0 (Below w.heap.size w w28) := ⟨h2_⟩
          clear BK475
          clear BK476
          clear HB
          clear h0_ h1_ h2_
          have BK475 := n0_
          have BK476 := n1_
          have HB := n2_
          clear n0_ n1_ n2_
          have hHeld : w28.cell? ⟨gb475, 0, none⟩ = some (.int .i64 a0_0) ∧ w28.cell? ⟨gb475, 1, none⟩ = some (.int .i64 a0_1) ∧ w28.cell? ⟨gb476, 0, none⟩ = some (.int .i64 a1_0) ∧ w28.cell? ⟨gb476, 1, none⟩ = some (.int .i64 a1_1) := hS_
          refine norm_ (a' := ?_) ?_ ?_
          rotate_left
          ·simp only [putAll, Act.put, List.setIfInBounds_toArray, List.set_cons_zero, List.set_cons_succ]
           rfl
          refine two_ (i := 19) (j := 24) (Ni := some 35) (Nj := some 6) #[true, true, true, true, true, true, true, true, true, true, true, true, true, true, true, true, true, true, true, true, false, false, false, false, false, false, false] #[true, true, true, true, true, true, true, true, true, true, true, true, true, true, true, true, true, true, true, false, false, false, false, false, true, false, false] rfl rfl rfl rfl (two_of HT_.out (by kernel_rfl)) (by decide) (by decide) (fun K hK => ?_) (fun K hK => ?_)
          ·skip
           refine goes_ Try.func58 (by kernel_rfl) rfl #[.int .u64 t483, .int .u64 t484] (by rfl) rfl rfl (by (try simp only [List.map_toArray, List.map_cons, List.map_nil]); first | done | rfl | (simp only [List.length_drop, List.length_take]; rfl)) ?_
           with_reducible refine (awardingbodyref01_Product.calls t483 t484 t485 t486 _ A23.out).mono ?_
           rintro e w29 ⟨rfl, hb⟩
           refine ⟨_, rfl, ?_⟩
           have n0_ := kb BK475 hb
           have n1_ := kb BK476 hb
           have n2_ := wb HB hb
           clear BK475
           clear BK476
           clear HB
           have BK475 := n0_
           have BK476 := n1_
           have HB := n2_
           clear n0_ n1_ n2_
           (try clear hb)
           (try clear hb2)
           (try clear hk)
           (try clear hi)
           refine hK.out _ _ ⟨(blk_cell BK475.out 0).trans rfl, (blk_cell BK475.out 1).trans rfl, (blk_cell BK476.out 0).trans rfl, (blk_cell BK476.out 1).trans rfl⟩ (fun hHeld => ?_)
           clear hK K
           refine norm_ (a' := ?_) ?_ ?_
           rotate_left
           ·show Act.put _ (some 35) _ = _
            simp only [Act.put, List.setIfInBounds_toArray, List.set_cons_zero, List.set_cons_succ, i64_w, i32_w]
            rfl
           exact norm_ (by first | (simp only [putAll, Act.put, List.setIfInBounds_toArray, List.set_cons_zero, List.set_cons_succ]; done) | (simp only [putAll, Act.put, List.setIfInBounds_toArray, List.set_cons_zero, List.set_cons_succ]; rfl)) (hJ5_8_9_15_18_19 () _ ⟨hHeld, (bq BK475), (bq BK476), (bw HB)⟩)
          ·skip
           refine box_step ?hg (N := 6) ?hd (cs := #[.int .u64 0, .int .u64 0]) (t := 61) ?hr ?_; (case hd => rfl); (case hg => rfl); (case hr => first | (go_simp; done) | (go_simp; rfl))
           intro gb490 hg w29 hbox hb
           have n0_ := kb BK475 hb
           have n1_ := kb BK476 hb
           have n2_ := wb HB hb
           have n3_ := Aside0.mk (hbox)
           have n4_ := gs HB hg
           have n5_ := gs HB hg
           have n6_ := nl BK475 hg
           have n7_ := nr BK475 hg
           have n8_ := nl BK476 hg
           have n9_ := nr BK476 hg
           clear BK475
           clear BK476
           clear HB
           have BK475 := n0_
           have BK476 := n1_
           have HB := n2_
           have BK490 := n3_
           have GW490 := n4_
           have GE490 := n5_
           have NB475_490 := n6_
           have NB490_475 := n7_
           have NB476_490 := n8_
           have NB490_476 := n9_
           clear n0_ n1_ n2_ n3_ n4_ n5_ n6_ n7_ n8_ n9_
           clear hb hbox hg
           refine hK.out _ _ ⟨(blk_cell BK475.out 0).trans rfl, (blk_cell BK475.out 1).trans rfl, (blk_cell BK476.out 0).trans rfl, (blk_cell BK476.out 1).trans rfl⟩ (fun hHeld => ?_)
           clear hK K
           refine norm_ (a' := ?_) ?_ ?_
           rotate_left
           ·show Act.put _ (some 6) _ = _
            simp only [Act.put, List.setIfInBounds_toArray, List.set_cons_zero, List.set_cons_succ, i64_w, i32_w]
            rfl
           exact norm_ (by first | (simp only [putAll, Act.put, List.setIfInBounds_toArray, List.set_cons_zero, List.set_cons_succ]; done) | (simp only [putAll, Act.put, List.setIfInBounds_toArray, List.set_cons_zero, List.set_cons_succ]; rfl)) (hJ5_8_9_15_18_24 (gb490) _ ⟨hHeld, (bq BK475), (bq BK476), (bq BK490), GW490.out, GE490.out, NB475_490.out, NB490_475.out, NB476_490.out, NB490_476.out, (bw HB)⟩)
        ·skip
         rintro gb490 w29 ⟨hS_, h0_, h1_, h2_, h3_, h4_, h5_, h6_, h7_, h8_, h9_⟩
         have n0_ : Aside0 (w29.heap[gb475]? = some (.cells #[.int .i64 a0_0, .int .i64 a0_1] 35 (0, 0))) := ⟨h0_⟩
         have n1_ : Aside0 (w29.heap[gb476]? = some (.cells #[.int .i64 a1_0, .int .i64 a1_1] 35 (0, 0))) := ⟨h1_⟩
         have n2_ : Aside0 (w29.heap[gb490]? = some (.cells #[.int .u64 0, .int .u64 0] 61 (0, 0))) := ⟨h2_⟩
         have n3_ : Aside0 (w.heap.size ≤ gb490) := ⟨h3_⟩
         have n4_ : Aside0 (w.heap.size ≤ gb490) := ⟨h4_⟩
         have n5_ : Aside0 (gb475 ≠ gb490) := ⟨h5_⟩
         have n6_ : Aside0 (gb490 ≠ gb475) := ⟨h6_⟩
         have n7_ : Aside0 (gb476 ≠ gb490) := ⟨h7_⟩
         have n8_ : Aside0 (gb490 ≠ gb476) := ⟨h8_⟩
         have n9_ : Aside0 (Below w.heap.size w w29) := ⟨h9_⟩
         clear BK475
         clear BK476
         clear HB
         clear h0_ h1_ h2_ h3_ h4_ h5_ h6_ h7_ h8_ h9_
         have BK475 := n0_
         have BK476 := n1_
         have BK490 := n2_
         have GW490 := n3_
         have GE490 := n4_
         have NB475_490 := n5_
         have NB490_475 := n6_
         have NB476_490 := n7_
         have NB490_476 := n8_
         have HB := n9_
         clear n0_ n1_ n2_ n3_ n4_ n5_ n6_ n7_ n8_ n9_
         have hHeld : w29.cell? ⟨gb475, 0, none⟩ = some (.int .i64 a0_0) ∧ w29.cell? ⟨gb475, 1, none⟩ = some (.int .i64 a0_1) ∧ w29.cell? ⟨gb476, 0, none⟩ = some (.int .i64 a1_0) ∧ w29.cell? ⟨gb476, 1, none⟩ = some (.int .i64 a1_1) := hS_
         refine norm_ (a' := ?_) ?_ ?_
         rotate_left
         ·simp only [putAll, Act.put, List.setIfInBounds_toArray, List.set_cons_zero, List.set_cons_succ]
          rfl
         refine one_ (i := 19) (N := some 35) #[true, true, true, true, true, true, true, true, true, true, true, true, true, true, true, true, true, true, true, true, false, false, false, false, true, false, false] rfl rfl (one_of HT_.out (by kernel_rfl)) (by decide) (fun K hK => ?_)
         refine goes_ Try.func58 (by kernel_rfl) rfl #[.int .u64 t483, .int .u64 t484] (by rfl) rfl rfl (by (try simp only [List.map_toArray, List.map_cons, List.map_nil]); first | done | rfl | (simp only [List.length_drop, List.length_take]; rfl)) ?_
         with_reducible refine (awardingbodyref01_Product.calls t483 t484 t485 t486 _ A23.out).mono ?_
         rintro e w30 ⟨rfl, hb⟩
         refine ⟨_, rfl, ?_⟩
         have n0_ := kb BK475 hb
         have n1_ := kb BK476 hb
         have n2_ := kb BK490 hb
         have n3_ := wb HB hb
         clear BK475
         clear BK476
         clear BK490
         clear HB
         have BK475 := n0_
         have BK476 := n1_
         have BK490 := n2_
         have HB := n3_
         clear n0_ n1_ n2_ n3_
         (try clear hb)
         (try clear hb2)
         (try clear hk)
         (try clear hi)
         refine hK.out _ _ ⟨(blk_cell BK475.out 0).trans rfl, (blk_cell BK475.out 1).trans rfl, (blk_cell BK476.out 0).trans rfl, (blk_cell BK476.out 1).trans rfl⟩ (fun hHeld => ?_)
         clear hK K
         refine norm_ (a' := ?_) ?_ ?_
         rotate_left
         ·show Act.put _ (some 35) _ = _
          simp only [Act.put, List.setIfInBounds_toArray, List.set_cons_zero, List.set_cons_succ, i64_w, i32_w]
          rfl
         exact norm_ (by first | (simp only [putAll, Act.put, List.setIfInBounds_toArray, List.set_cons_zero, List.set_cons_succ]; done) | (simp only [putAll, Act.put, List.setIfInBounds_toArray, List.set_cons_zero, List.set_cons_succ]; rfl)) (hJ5_8_9_15_18_19_24 (gb490) _ ⟨hHeld, (bq BK475), (bq BK476), (bq BK490), GW490.out, GE490.out, NB475_490.out, NB490_475.out, NB476_490.out, NB490_476.out, (bw HB)⟩)
       ·skip
        rintro _ w29 ⟨hS_, h0_, h1_, h2_⟩
        have n0_ : Aside0 (w29.heap[gb475]? = some (.cells #[.int .i64 a0_0, .int .i64 a0_1] 35 (0, 0))) := ⟨h0_⟩
        have n1_ : Aside0 (w29.heap[gb476]? = some (.cells #[.int .i64 a1_0, .int .i64 a1_1] 35 (0, 0))) := ⟨h1_⟩
        have n2_ : Aside0 (Below w.heap.size w w29) := ⟨h2_⟩
        clear BK475
        clear BK476
        clear HB
        clear h0_ h1_ h2_
        have BK475 := n0_
        have BK476 := n1_
        have HB := n2_
        clear n0_ n1_ n2_
        have hHeld : w29.cell? ⟨gb475, 0, none⟩ = some (.int .i64 a0_0) ∧ w29.cell? ⟨gb475, 1, none⟩ = some (.int .i64 a0_1) ∧ w29.cell? ⟨gb476, 0, none⟩ = some (.int .i64 a1_0) ∧ w29.cell? ⟨gb476, 1, none⟩ = some (.int .i64 a1_1) := hS_
        refine norm_ (a' := ?_) ?_ ?_
        rotate_left
        ·simp only [putAll, Act.put, List.setIfInBounds_toArray, List.set_cons_zero, List.set_cons_succ]
         rfl
        refine two_ (i := 20) (j := 24) (Ni := some 36) (Nj := some 6) #[true, true, true, true, true, true, true, true, true, true, true, true, true, true, true, true, true, true, true, true, true, false, false, false, false, false, false] #[true, true, true, true, true, true, true, true, true, true, true, true, true, true, true, true, true, true, true, true, false, false, false, false, true, false, false] rfl rfl rfl rfl (two_of HT_.out (by kernel_rfl)) (by decide) (by decide) (fun K hK => ?_) (fun K hK => ?_)
        ·skip
         refine goes_ Try.func60 (by kernel_rfl) rfl #[.bool (decide (a0_0 < 0)), .agg #[.int .u64 t481, .int .u64 t482], .bool (decide (a1_0 > 0)), .agg #[.int .u64 t485, .int .u64 t486]] (by rfl) rfl rfl (by (try simp only [List.map_toArray, List.map_cons, List.map_nil]); first | done | rfl | (simp only [List.length_drop, List.length_take]; rfl)) ?_
         with_reducible refine (awardingbodyref01_total.calls kj2 (decide (a0_0 < 0)) t481 t482 (decide (a1_0 > 0)) t485 t486 t487 t488 t489 _ A24.out).mono ?_
         rintro e w30 ⟨rfl, hb⟩
         refine ⟨_, rfl, ?_⟩
         have n0_ := kb BK475 hb
         have n1_ := kb BK476 hb
         have n2_ := wb HB hb
         clear BK475
         clear BK476
         clear HB
         have BK475 := n0_
         have BK476 := n1_
         have HB := n2_
         clear n0_ n1_ n2_
         (try clear hb)
         (try clear hb2)
         (try clear hk)
         (try clear hi)
         refine hK.out _ _ ⟨(blk_cell BK475.out 0).trans rfl, (blk_cell BK475.out 1).trans rfl, (blk_cell BK476.out 0).trans rfl, (blk_cell BK476.out 1).trans rfl⟩ (fun hHeld => ?_)
         clear hK K
         refine norm_ (a' := ?_) ?_ ?_
         rotate_left
         ·show Act.put _ (some 36) _ = _
          simp only [Act.put, List.setIfInBounds_toArray, List.set_cons_zero, List.set_cons_succ, i64_w, i32_w]
          rfl
         refine pure_ (i := 21) (N := some 15) (v := ?_) (a' := ?_) #[true, true, true, true, true, true, true, true, true, true, true, true, true, true, true, true, true, true, true, true, true, true, false, false, false, false, false] rfl rfl (any_of HT_.out (by kernel_rfl)) (fun _ _ _ h => h) (Or.inl ⟨by rfl, ?_⟩) ?_ ?_
         rotate_left
         ·intro w'
          go_simp
          with_reducible rfl
         rotate_left
         ·simp only [Act.put, List.setIfInBounds_toArray, List.set_cons_zero, List.set_cons_succ, i64_w, i32_w]
          rfl
         refine pure_ (i := 22) (N := some 37) (v := ?_) (a' := ?_) #[true, true, true, true, true, true, true, true, true, true, true, true, true, true, true, true, true, true, true, true, true, true, true, false, false, false, false] rfl rfl (any_of HT_.out (by kernel_rfl)) (fun _ _ _ h => h) (Or.inl ⟨by rfl, ?_⟩) ?_ ?_
         rotate_left
         ·intro w'
          go_simp
          with_reducible rfl
         rotate_left
         ·simp only [Act.put, List.setIfInBounds_toArray, List.set_cons_zero, List.set_cons_succ, i64_w, i32_w]
          rfl
         refine pure_ (i := 23) (N := some 38) (v := ?_) (a' := ?_) #[true, true, true, true, true, true, true, true, true, true, true, true, true, true, true, true, true, true, true, true, true, true, true, true, false, false, false] rfl rfl (any_of HT_.out (by kernel_rfl)) (fun _ _ _ h => h) (Or.inl ⟨by rfl, ?_⟩) ?_ ?_
         rotate_left
         ·intro w'
          go_simp
          with_reducible rfl
         rotate_left
         ·simp only [Act.put, List.setIfInBounds_toArray, List.set_cons_zero, List.set_cons_succ, i64_w, i32_w]
          rfl
         exact norm_ (by first | (simp only [putAll, Act.put, List.setIfInBounds_toArray, List.set_cons_zero, List.set_cons_succ]; done) | (simp only [putAll, Act.put, List.setIfInBounds_toArray, List.set_cons_zero, List.set_cons_succ]; rfl)) (hJ5_8_9_15_18_19_20 () _ ⟨hHeld, (bq BK475), (bq BK476), (bw HB)⟩)
        ·skip
         refine box_step ?hg (N := 6) ?hd (cs := #[.int .u64 0, .int .u64 0]) (t := 61) ?hr ?_; (case hd => rfl); (case hg => rfl); (case hr => first | (go_simp; done) | (go_simp; rfl))
         intro gb490 hg w30 hbox hb
         have n0_ := kb BK475 hb
         have n1_ := kb BK476 hb
         have n2_ := wb HB hb
         have n3_ := Aside0.mk (hbox)
         have n4_ := gs HB hg
         have n5_ := gs HB hg
         have n6_ := nl BK475 hg
         have n7_ := nr BK475 hg
         have n8_ := nl BK476 hg
         have n9_ := nr BK476 hg
         clear BK475
         clear BK476
         clear HB
         have BK475 := n0_
         have BK476 := n1_
         have HB := n2_
         have BK490 := n3_
         have GW490 := n4_
         have GE490 := n5_
         have NB475_490 := n6_
         have NB490_475 := n7_
         have NB476_490 := n8_
         have NB490_476 := n9_
         clear n0_ n1_ n2_ n3_ n4_ n5_ n6_ n7_ n8_ n9_
         clear hb hbox hg
         refine hK.out _ _ ⟨(blk_cell BK475.out 0).trans rfl, (blk_cell BK475.out 1).trans rfl, (blk_cell BK476.out 0).trans rfl, (blk_cell BK476.out 1).trans rfl⟩ (fun hHeld => ?_)
         clear hK K
         refine norm_ (a' := ?_) ?_ ?_
         rotate_left
         ·show Act.put _ (some 6) _ = _
          simp only [Act.put, List.setIfInBounds_toArray, List.set_cons_zero, List.set_cons_succ, i64_w, i32_w]
          rfl
         exact norm_ (by first | (simp only [putAll, Act.put, List.setIfInBounds_toArray, List.set_cons_zero, List.set_cons_succ]; done) | (simp only [putAll, Act.put, List.setIfInBounds_toArray, List.set_cons_zero, List.set_cons_succ]; rfl)) (hJ5_8_9_15_18_19_24 (gb490) _ ⟨hHeld, (bq BK475), (bq BK476), (bq BK490), GW490.out, GE490.out, NB475_490.out, NB490_475.out, NB476_490.out, NB490_476.out, (bw HB)⟩)
      ·skip
       rintro gb490 w30 ⟨hS_, h0_, h1_, h2_, h3_, h4_, h5_, h6_, h7_, h8_, h9_⟩
       have n0_ : Aside0 (w30.heap[gb475]? = some (.cells #[.int .i64 a0_0, .int .i64 a0_1] 35 (0, 0))) := ⟨h0_⟩
       have n1_ : Aside0 (w30.heap[gb476]? = some (.cells #[.int .i64 a1_0, .int .i64 a1_1] 35 (0, 0))) := ⟨h1_⟩
       have n2_ : Aside0 (w30.heap[gb490]? = some (.cells #[.int .u64 0, .int .u64 0] 61 (0, 0))) := ⟨h2_⟩
       have n3_ : Aside0 (w.heap.size ≤ gb490) := ⟨h3_⟩
       have n4_ : Aside0 (w.heap.size ≤ gb490) := ⟨h4_⟩
       have n5_ : Aside0 (gb475 ≠ gb490) := ⟨h5_⟩
       have n6_ : Aside0 (gb490 ≠ gb475) := ⟨h6_⟩
       have n7_ : Aside0 (gb476 ≠ gb490) := ⟨h7_⟩
       have n8_ : Aside0 (gb490 ≠ gb476) := ⟨h8_⟩
       have n9_ : Aside0 (Below w.heap.size w w30) := ⟨h9_⟩
       clear BK475
       clear BK476
       clear HB
       clear h0_ h1_ h2_ h3_ h4_ h5_ h6_ h7_ h8_ h9_
       have BK475 := n0_
       have BK476 := n1_
       have BK490 := n2_
       have GW490 := n3_
       have GE490 := n4_
       have NB475_490 := n5_
       have NB490_475 := n6_
       have NB476_490 := n7_
       have NB490_476 := n8_
       have HB := n9_
       clear n0_ n1_ n2_ n3_ n4_ n5_ n6_ n7_ n8_ n9_
       have hHeld : w30.cell? ⟨gb475, 0, none⟩ = some (.int .i64 a0_0) ∧ w30.cell? ⟨gb475, 1, none⟩ = some (.int .i64 a0_1) ∧ w30.cell? ⟨gb476, 0, none⟩ = some (.int .i64 a1_0) ∧ w30.cell? ⟨gb476, 1, none⟩ = some (.int .i64 a1_1) := hS_
       refine norm_ (a' := ?_) ?_ ?_
       rotate_left
       ·simp only [putAll, Act.put, List.setIfInBounds_toArray, List.set_cons_zero, List.set_cons_succ]
        rfl
       refine one_ (i := 20) (N := some 36) #[true, true, true, true, true, true, true, true, true, true, true, true, true, true, true, true, true, true, true, true, true, false, false, false, true, false, false] rfl rfl (one_of HT_.out (by kernel_rfl)) (by decide) (fun K hK => ?_)
       refine goes_ Try.func60 (by kernel_rfl) rfl #[.bool (decide (a0_0 < 0)), .agg #[.int .u64 t481, .int .u64 t482], .bool (decide (a1_0 > 0)), .agg #[.int .u64 t485, .int .u64 t486]] (by rfl) rfl rfl (by (try simp only [List.map_toArray, List.map_cons, List.map_nil]); first | done | rfl | (simp only [List.length_drop, List.length_take]; rfl)) ?_
       with_reducible refine (awardingbodyref01_total.calls kj2 (decide (a0_0 < 0)) t481 t482 (decide (a1_0 > 0)) t485 t486 t487 t488 t489 _ A24.out).mono ?_
       rintro e w31 ⟨rfl, hb⟩
       refine ⟨_, rfl, ?_⟩
       have n0_ := kb BK475 hb
       have n1_ := kb BK476 hb
       have n2_ := kb BK490 hb
       have n3_ := wb HB hb
       clear BK475
       clear BK476
       clear BK490
       clear HB
       have BK475 := n0_
       have BK476 := n1_
       have BK490 := n2_
       have HB := n3_
       clear n0_ n1_ n2_ n3_
       (try clear hb)
       (try clear hb2)
       (try clear hk)
       (try clear hi)
       refine hK.out _ _ ⟨(blk_cell BK475.out 0).trans rfl, (blk_cell BK475.out 1).trans rfl, (blk_cell BK476.out 0).trans rfl, (blk_cell BK476.out 1).trans rfl⟩ (fun hHeld => ?_)
       clear hK K
       refine norm_ (a' := ?_) ?_ ?_
       rotate_left
       ·show Act.put _ (some 36) _ = _
        simp only [Act.put, List.setIfInBounds_toArray, List.set_cons_zero, List.set_cons_succ, i64_w, i32_w]
        rfl
       refine pure_ (i := 21) (N := some 15) (v := ?_) (a' := ?_) #[true, true, true, true, true, true, true, true, true, true, true, true, true, true, true, true, true, true, true, true, true, true, false, false, true, false, false] rfl rfl (any_of HT_.out (by kernel_rfl)) (fun _ _ _ h => h) (Or.inl ⟨by rfl, ?_⟩) ?_ ?_
       rotate_left
       ·intro w'
        go_simp
        with_reducible rfl
       rotate_left
       ·simp only [Act.put, List.setIfInBounds_toArray, List.set_cons_zero, List.set_cons_succ, i64_w, i32_w]
        rfl
       refine pure_ (i := 22) (N := some 37) (v := ?_) (a' := ?_) #[true, true, true, true, true, true, true, true, true, true, true, true, true, true, true, true, true, true, true, true, true, true, true, false, true, false, false] rfl rfl (any_of HT_.out (by kernel_rfl)) (fun _ _ _ h => h) (Or.inl ⟨by rfl, ?_⟩) ?_ ?_
       rotate_left
       ·intro w'
        go_simp
        with_reducible rfl
       rotate_left
       ·simp only [Act.put, List.setIfInBounds_toArray, List.set_cons_zero, List.set_cons_succ, i64_w, i32_w]
        rfl
       refine pure_ (i := 23) (N := some 38) (v := ?_) (a' := ?_) #[true, true, true, true, true, true, true, true, true, true, true, true, true, true, true, true, true, true, true, true, true, true, true, true, true, false, false] rfl rfl (any_of HT_.out (by kernel_rfl)) (fun _ _ _ h => h) (Or.inl ⟨by rfl, ?_⟩) ?_ ?_
       rotate_left
       ·intro w'
        go_simp
        with_reducible rfl
       rotate_left
       ·simp only [Act.put, List.setIfInBounds_toArray, List.set_cons_zero, List.set_cons_succ, i64_w, i32_w]
        rfl
       exact norm_ (by first | (simp only [putAll, Act.put, List.setIfInBounds_toArray, List.set_cons_zero, List.set_cons_succ]; done) | (simp only [putAll, Act.put, List.setIfInBounds_toArray, List.set_cons_zero, List.set_cons_succ]; rfl)) (hJ5_8_9_15_18_19_20_24 (gb490) _ ⟨hHeld, (bq BK475), (bq BK476), (bq BK490), GW490.out, GE490.out, NB475_490.out, NB490_475.out, NB476_490.out, NB490_476.out, (bw HB)⟩)
     ·skip
      rintro _ w30 ⟨hS_, h0_, h1_, h2_⟩
      have n0_ : Aside0 (w30.heap[gb475]? = some (.cells #[.int .i64 a0_0, .int .i64 a0_1] 35 (0, 0))) := ⟨h0_⟩
      have n1_ : Aside0 (w30.heap[gb476]? = some (.cells #[.int .i64 a1_0, .int .i64 a1_1] 35 (0, 0))) := ⟨h1_⟩
      have n2_ : Aside0 (Below w.heap.size w w30) := ⟨h2_⟩
      clear BK475
      clear BK476
      clear HB
      clear h0_ h1_ h2_
      have BK475 := n0_
      have BK476 := n1_
      have HB := n2_
      clear n0_ n1_ n2_
      have hHeld : w30.cell? ⟨gb475, 0, none⟩ = some (.int .i64 a0_0) ∧ w30.cell? ⟨gb475, 1, none⟩ = some (.int .i64 a0_1) ∧ w30.cell? ⟨gb476, 0, none⟩ = some (.int .i64 a1_0) ∧ w30.cell? ⟨gb476, 1, none⟩ = some (.int .i64 a1_1) := hS_
      refine norm_ (a' := ?_) ?_ ?_
      rotate_left
      ·simp only [putAll, Act.put, List.setIfInBounds_toArray, List.set_cons_zero, List.set_cons_succ]
       rfl
      refine one_ (i := 24) (N := some 6) #[true, true, true, true, true, true, true, true, true, true, true, true, true, true, true, true, true, true, true, true, true, true, true, true, true, false, false] rfl rfl (one_of HT_.out (by kernel_rfl)) (by decide) (fun K hK => ?_)
      refine box_step ?hg (N := 6) ?hd (cs := #[.int .u64 0, .int .u64 0]) (t := 61) ?hr ?_; (case hd => rfl); (case hg => rfl); (case hr => first | (go_simp; done) | (go_simp; rfl))
      intro gb490 hg w31 hbox hb
      have n0_ := kb BK475 hb
      have n1_ := kb BK476 hb
      have n2_ := wb HB hb
      have n3_ := Aside0.mk (hbox)
      have n4_ := gs HB hg
      have n5_ := gs HB hg
      have n6_ := nl BK475 hg
      have n7_ := nr BK475 hg
      have n8_ := nl BK476 hg
      have n9_ := nr BK476 hg
      clear BK475
      clear BK476
      clear HB
      have BK475 := n0_
      have BK476 := n1_
      have HB := n2_
      have BK490 := n3_
      have GW490 := n4_
      have GE490 := n5_
      have NB475_490 := n6_
      have NB490_475 := n7_
      have NB476_490 := n8_
      have NB490_476 := n9_
      clear n0_ n1_ n2_ n3_ n4_ n5_ n6_ n7_ n8_ n9_
      clear hb hbox hg
      refine hK.out _ _ ⟨(blk_cell BK475.out 0).trans rfl, (blk_cell BK475.out 1).trans rfl, (blk_cell BK476.out 0).trans rfl, (blk_cell BK476.out 1).trans rfl⟩ (fun hHeld => ?_)
      clear hK K
      refine norm_ (a' := ?_) ?_ ?_
      rotate_left
      ·show Act.put _ (some 6) _ = _
       simp only [Act.put, List.setIfInBounds_toArray, List.set_cons_zero, List.set_cons_succ, i64_w, i32_w]
       rfl
      exact norm_ (by first | (simp only [putAll, Act.put, List.setIfInBounds_toArray, List.set_cons_zero, List.set_cons_succ]; done) | (simp only [putAll, Act.put, List.setIfInBounds_toArray, List.set_cons_zero, List.set_cons_succ]; rfl)) (hJ5_8_9_15_18_19_20_24 (gb490) _ ⟨hHeld, (bq BK475), (bq BK476), (bq BK490), GW490.out, GE490.out, NB475_490.out, NB490_475.out, NB476_490.out, NB490_476.out, (bw HB)⟩)
    rintro gb490 w31 ⟨hS_, h0_, h1_, h2_, h3_, h4_, h5_, h6_, h7_, h8_, h9_⟩
    have n0_ : Aside0 (w31.heap[gb475]? = some (.cells #[.int .i64 a0_0, .int .i64 a0_1] 35 (0, 0))) := ⟨h0_⟩
    have n1_ : Aside0 (w31.heap[gb476]? = some (.cells #[.int .i64 a1_0, .int .i64 a1_1] 35 (0, 0))) := ⟨h1_⟩
    have n2_ : Aside0 (w31.heap[gb490]? = some (.cells #[.int .u64 0, .int .u64 0] 61 (0, 0))) := ⟨h2_⟩
    have n3_ : Aside0 (w.heap.size ≤ gb490) := ⟨h3_⟩
    have n4_ : Aside0 (w.heap.size ≤ gb490) := ⟨h4_⟩
    have n5_ : Aside0 (gb475 ≠ gb490) := ⟨h5_⟩
    have n6_ : Aside0 (gb490 ≠ gb475) := ⟨h6_⟩
    have n7_ : Aside0 (gb476 ≠ gb490) := ⟨h7_⟩
    have n8_ : Aside0 (gb490 ≠ gb476) := ⟨h8_⟩
    have n9_ : Aside0 (Below w.heap.size w w31) := ⟨h9_⟩
    clear BK475
    clear BK476
    clear HB
    clear h0_ h1_ h2_ h3_ h4_ h5_ h6_ h7_ h8_ h9_
    have BK475 := n0_
    have BK476 := n1_
    have BK490 := n2_
    have GW490 := n3_
    have GE490 := n4_
    have NB475_490 := n5_
    have NB490_475 := n6_
    have NB476_490 := n7_
    have NB490_476 := n8_
    have HB := n9_
    clear n0_ n1_ n2_ n3_ n4_ n5_ n6_ n7_ n8_ n9_
    have hHeld : w31.cell? ⟨gb475, 0, none⟩ = some (.int .i64 a0_0) ∧ w31.cell? ⟨gb475, 1, none⟩ = some (.int .i64 a0_1) ∧ w31.cell? ⟨gb476, 0, none⟩ = some (.int .i64 a1_0) ∧ w31.cell? ⟨gb476, 1, none⟩ = some (.int .i64 a1_1) := hS_
    refine norm_ (a' := ?_) ?_ ?_
    rotate_left
    ·simp only [putAll, Act.put, List.setIfInBounds_toArray, List.set_cons_zero, List.set_cons_succ]
     rfl
    refine pure_ (i := 25) (N := some 5) (v := ?_) (a' := ?_) #[true, true, true, true, true, true, true, true, true, true, true, true, true, true, true, true, true, true, true, true, true, true, true, true, true, true, false] rfl rfl (any_of HT_.out (by kernel_rfl)) (fun _ _ _ h => h) (Or.inl ⟨by rfl, ?_⟩) ?_ ?_
    rotate_left
    ·intro w'
     go_simp
     with_reducible rfl
    rotate_left
    ·simp only [Act.put, List.setIfInBounds_toArray, List.set_cons_zero, List.set_cons_succ, i64_w, i32_w]
     rfl
    refine one_ (i := 26) (N := none) #[true, true, true, true, true, true, true, true, true, true, true, true, true, true, true, true, true, true, true, true, true, true, true, true, true, true, true] rfl rfl (one_of HT_.out (by kernel_rfl)) (by decide) (fun K hK => ?_)
    have hs32 : w31.cell? ⟨gb490, 0, none⟩ = some (.int .u64 0) := (blk_cell BK490.out 0).trans rfl
    have hfs32 := blk_frozen BK490.out 0
    have hns32_0 := NB475_490.out
    have hns32_1 := NB476_490.out
    have hms32_0 := NB490_475.out
    have hms32_1 := NB490_476.out
    have hs33 : w31.cell? ⟨gb490, 1, none⟩ = some (.int .u64 0) := (blk_cell BK490.out 1).trans rfl
    have hfs33 := blk_frozen BK490.out 1
    have hns33_0 := NB475_490.out
    have hns33_1 := NB476_490.out
    have hms33_0 := NB490_475.out
    have hms33_1 := NB490_476.out
    refine skip_ (w1 := ?_) (by rfl) rfl ?_ ?_
    rotate_left
    ·go_simp
     rfl
    refine hK.out _ _ ⟨((cell_far (p := ⟨gb490, _, none⟩) NB475_490.out _).trans (((cell_far (p := ⟨gb490, _, none⟩) NB475_490.out _).trans (hHeld.1)))), ((cell_far (p := ⟨gb490, _, none⟩) NB475_490.out _).trans (((cell_far (p := ⟨gb490, _, none⟩) NB475_490.out _).trans (hHeld.2.1)))), ((cell_far (p := ⟨gb490, _, none⟩) NB476_490.out _).trans (((cell_far (p := ⟨gb490, _, none⟩) NB476_490.out _).trans (hHeld.2.2.1)))), ((cell_far (p := ⟨gb490, _, none⟩) NB476_490.out _).trans (((cell_far (p := ⟨gb490, _, none⟩) NB476_490.out _).trans (hHeld.2.2.2))))⟩ (fun hHeld => ?_)
    clear hK K
    refine done_ (done_of HT_.out (by kernel_rfl)) ?_
    obtain ⟨hnb34, hnc34⟩ := n2 NB490_475
    obtain ⟨hnb35, hnc35⟩ := n2 NB490_476
    have hcz36_0 : w31.cell? ⟨gb490, 0, none⟩ = some (.int .u64 0) := (blk_cell BK490.out 0).trans rfl
    have hcz36_1 : w31.cell? ⟨gb490, 1, none⟩ = some (.int .u64 0) := (blk_cell BK490.out 1).trans rfl
    have hfz36_0 := blk_frozen BK490.out 0
    have hfz36_1 := blk_frozen BK490.out 1
    go_upto_if 41 with (fail)
    have H := HC25.out
    clear HC25
    by_cases c37 : (t488 == 0 && (t489 == 0)) = true
    ·rw [if_pos c37] at H
     have c37b0 : (t488 == 0 && (t489 == 0)) = true := c37
     (try (have c37b1 : decide (t488 = 0 && (t489 == 0)) = true := by simpa using c37))
     (try (have c37b2 : (t488 == 0 && (t489 == 0)) = true := by simpa using c37))
     clear c37
     (first | rw [c37b0] | (simp only [i64_w, i32_w]; rw [c37b0]) | skip)
     obtain rfl := Option.some.inj H
     go_wp2
     go_ret
     exact ⟨by first | rfl | (simp [errW_none, errW_some] <;> rfl) | (simp [*, errW_none, errW_some] <;> rfl), bw HB⟩
    ·rw [if_neg c37] at H
     have c37b0 : (t488 == 0 && (t489 == 0)) = false := by simpa using c37
     (try (have c37b1 : decide (t488 = 0 && (t489 == 0)) = false := by simpa using c37))
     (try (have c37b2 : (t488 == 0 && (t489 == 0)) = false := by simpa using c37))
     (try (have c37b3 : ¬ (t488 = 0 && (t489 == 0)) := by simpa using c37))
     clear c37
     (first | rw [c37b0] | (simp only [i64_w, i32_w]; rw [c37b0]) | skip)
     by_cases c38 : t487 = true
     ·subst c38
      have H1 : (some (-1)) = some r := by rw [if_pos rfl] at H; exact H
      clear H
      have H := H1
      clear H1
      obtain rfl := Option.some.inj H
      go_wp2
      go_ret
      exact ⟨by first | rfl | (simp [errW_none, errW_some] <;> rfl) | (simp [*, errW_none, errW_some] <;> rfl), bw HB⟩
     ·replace c38 := Bool.eq_false_iff.mpr c38
      subst c38
      have H1 : (some 1) = some r := by rw [if_neg (show ¬ (false = true) by decide)] at H; exact H
      clear H
      have H := H1
      clear H1
      obtain rfl := Option.some.inj H
      go_wp2
      go_ret
      exact ⟨by first | rfl | (simp [errW_none, errW_some] <;> rfl) | (simp [*, errW_none, errW_some] <;> rfl), bw HB⟩

end Go.Proofs.Ytcbohbeipgcfhaa.G
