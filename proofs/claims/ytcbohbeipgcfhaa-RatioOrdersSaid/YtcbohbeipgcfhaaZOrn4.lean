/- Texts of this claim laid together: Gf31. -/
import Derived.Test.YtcbohbeipgcfhaaG0
import Derived.Test.YtcbohbeipgcfhaaZOrn2
import Derived.Test.YtcbohbeipgcfhaaZOrn3
-- Printed by gp.py (a program of this session's own, over the kit's printer) out of the translation; Lean checks it.
namespace Go.Proofs.Ytcbohbeipgcfhaa.G
open Go.Proofs.Ytcbohbeipgcfhaa.Given Go.Proofs.Ytcbohbeipgcfhaa.Short
open Go.RowKit Go.Proofs.YtcbohbeipgcfhaaW.PrintWords Go.Proofs.YtcbohbeipgcfhaaW.PrintLast Go.Proofs.YtcbohbeipgcfhaaW.PrintMore
attribute [local go_sem] max2_int min2_int max_two min_two max_three min_three max_four min_four   -- for this text's walks alone
set_option linter.unusedVariables false
set_option linter.unusedSimpArgs false

/-! ### ratio_Compare: function 31 -/
mutual
def ratio_Compare.j0 : Nat → Bool → Int → Int → Int → Int → Option (Int)
 | 0, _, _, _, _, _ => none
 | k + 1, x14, x445000, x445001, x446000, x446001 => if x14 = true then (some 0) else ((ratio_times.f x445000 (IntKind.u64.wrap (x446001))).bind fun bt448 => ((ratio_times.f x446000 (IntKind.u64.wrap (x445001))).bind fun bt451 => (if bt448.1 = true then (ratio_Compare.j1 k (!bt451.1) bt448.1 bt448.2.1 bt448.2.2 bt451.1 bt451.2.1 bt451.2.2) else (ratio_Compare.j1 k false bt448.1 bt448.2.1 bt448.2.2 bt451.1 bt451.2.1 bt451.2.2))))
def ratio_Compare.j1 : Nat → Bool → Bool → Int → Int → Bool → Int → Int → Option (Int)
 | 0, _, _, _, _, _, _, _ => none
 | k + 1, x27, x455000, x455001, x455002, x456000, x456001, x456002 => if x27 = true then (some (-1)) else (if x456000 = true then (ratio_Compare.j2 k (!x455000) x455000 x455001 x455002 x456000 x456001 x456002) else (ratio_Compare.j2 k false x455000 x455001 x455002 x456000 x456001 x456002))
def ratio_Compare.j2 : Nat → Bool → Bool → Int → Int → Bool → Int → Int → Option (Int)
 | 0, _, _, _, _, _, _, _ => none
 | k + 1, x35, x455000, x455001, x455002, x456000, x456001, x456002 => if x35 = true then (some 1) else (if x455000 = true then ((ratio_wide_compare.f k x456000 x456001 x456002 x455000 x455001 x455002).bind fun t456 => (some t456)) else ((ratio_wide_compare.f k x455000 x455001 x455002 x456000 x456001 x456002).bind fun t457 => (some t457)))
end
def ratio_Compare.f (k : Nat) (a0_0 : Int) (a0_1 : Int) (a1_0 : Int) (a1_1 : Int) : Option (Int) := (ratio_Valid.f k a0_0 a0_1).bind fun t446 => (if t446 = true then ((ratio_Valid.f k a1_0 a1_1).bind fun t447 => (ratio_Compare.j0 k (!t447) a0_0 a0_1 a1_0 a1_1)) else (ratio_Compare.j0 k true a0_0 a0_1 a1_0 a1_1))
theorem ratio_Compare.mono_l : ∀ k, (∀ y0 y1 y2 y3 y4, LeO (ratio_Compare.j0 k y0 y1 y2 y3 y4) (ratio_Compare.j0 (k + 1) y0 y1 y2 y3 y4)) ∧ (∀ y0 y1 y2 y3 y4 y5 y6, LeO (ratio_Compare.j1 k y0 y1 y2 y3 y4 y5 y6) (ratio_Compare.j1 (k + 1) y0 y1 y2 y3 y4 y5 y6)) ∧ (∀ y0 y1 y2 y3 y4 y5 y6, LeO (ratio_Compare.j2 k y0 y1 y2 y3 y4 y5 y6) (ratio_Compare.j2 (k + 1) y0 y1 y2 y3 y4 y5 y6))
 | 0 => ⟨fun _ _ _ _ _ r h => by simp [ratio_Compare.j0] at h, fun _ _ _ _ _ _ _ r h => by simp [ratio_Compare.j1] at h, fun _ _ _ _ _ _ _ r h => by simp [ratio_Compare.j2] at h⟩
 | k + 1 => by
  obtain ⟨ih0, ih1, ih2⟩ := ratio_Compare.mono_l k
  refine ⟨?_, ?_, ?_⟩
  ·intro y0 y1 y2 y3 y4
   unfold ratio_Compare.j0
   repeat' first
   | (with_reducible exact ih0 _ _ _ _ _)
   | (with_reducible exact ih1 _ _ _ _ _ _ _)
   | (with_reducible exact ih2 _ _ _ _ _ _ _)
   | (with_reducible exact ratio_Valid.mono _ _ _)
   | (with_reducible exact ratio_wide_compare.mono _ _ _ _ _ _ _)
   | (with_reducible exact LeO.refl _)
   | (with_reducible exact LeO.none _)
   | (with_reducible refine LeO.ite ?_ ?_)
   | (with_reducible refine LeO.bind ?_ (fun _ => ?_))
   | exact ih0 _ _ _ _ _
   | exact ih1 _ _ _ _ _ _ _
   | exact ih2 _ _ _ _ _ _ _
   | exact ratio_Valid.mono _ _ _
   | exact ratio_wide_compare.mono _ _ _ _ _ _ _
   | exact LeO.none _
   | refine LeO.ite ?_ ?_
   | refine LeO.bind ?_ (fun _ => ?_)
  ·intro y0 y1 y2 y3 y4 y5 y6
   unfold ratio_Compare.j1
   repeat' first
   | (with_reducible exact ih0 _ _ _ _ _)
   | (with_reducible exact ih1 _ _ _ _ _ _ _)
   | (with_reducible exact ih2 _ _ _ _ _ _ _)
   | (with_reducible exact ratio_Valid.mono _ _ _)
   | (with_reducible exact ratio_wide_compare.mono _ _ _ _ _ _ _)
   | (with_reducible exact LeO.refl _)
   | (with_reducible exact LeO.none _)
   | (with_reducible refine LeO.ite ?_ ?_)
   | (with_reducible refine LeO.bind ?_ (fun _ => ?_))
   | exact ih0 _ _ _ _ _
   | exact ih1 _ _ _ _ _ _ _
   | exact ih2 _ _ _ _ _ _ _
   | exact ratio_Valid.mono _ _ _
   | exact ratio_wide_compare.mono _ _ _ _ _ _ _
   | exact LeO.none _
   | refine LeO.ite ?_ ?_
   | refine LeO.bind ?_ (fun _ => ?_)
  ·intro y0 y1 y2 y3 y4 y5 y6
   unfold ratio_Compare.j2
   repeat' first
   | (with_reducible exact ih0 _ _ _ _ _)
   | (with_reducible exact ih1 _ _ _ _ _ _ _)
   | (with_reducible exact ih2 _ _ _ _ _ _ _)
   | (with_reducible exact ratio_Valid.mono _ _ _)
   | (with_reducible exact ratio_wide_compare.mono _ _ _ _ _ _ _)
   | (with_reducible exact LeO.refl _)
   | (with_reducible exact LeO.none _)
   | (with_reducible refine LeO.ite ?_ ?_)
   | (with_reducible refine LeO.bind ?_ (fun _ => ?_))
   | exact ih0 _ _ _ _ _
   | exact ih1 _ _ _ _ _ _ _
   | exact ih2 _ _ _ _ _ _ _
   | exact ratio_Valid.mono _ _ _
   | exact ratio_wide_compare.mono _ _ _ _ _ _ _
   | exact LeO.none _
   | refine LeO.ite ?_ ?_
   | refine LeO.bind ?_ (fun _ => ?_)
theorem ratio_Compare.mono : ∀ a0 a1 a2 a3 k, LeO (ratio_Compare.f k a0 a1 a2 a3) (ratio_Compare.f (k + 1) a0 a1 a2 a3) := by
 intro a0 a1 a2 a3 k
 obtain ⟨ih0, ih1, ih2⟩ := ratio_Compare.mono_l k
 unfold ratio_Compare.f
 repeat' first
   | (with_reducible exact ih0 _ _ _ _ _)
   | (with_reducible exact ih1 _ _ _ _ _ _ _)
   | (with_reducible exact ih2 _ _ _ _ _ _ _)
   | (with_reducible exact ratio_Valid.mono _ _ _)
   | (with_reducible exact ratio_wide_compare.mono _ _ _ _ _ _ _)
   | (with_reducible exact LeO.refl _)
   | (with_reducible exact LeO.none _)
   | (with_reducible refine LeO.ite ?_ ?_)
   | (with_reducible refine LeO.bind ?_ (fun _ => ?_))
   | exact ih0 _ _ _ _ _
   | exact ih1 _ _ _ _ _ _ _
   | exact ih2 _ _ _ _ _ _ _
   | exact ratio_Valid.mono _ _ _
   | exact ratio_wide_compare.mono _ _ _ _ _ _ _
   | exact LeO.none _
   | refine LeO.ite ?_ ?_
   | refine LeO.bind ?_ (fun _ => ?_)
def ratio_Compare.T3 : Bool × List (List Nat × List Nat) := (true, [([], []), ([0], [0]), ([], []), ([2], [2]), ([3], [3]), ([1, 4], [1, 4]), ([], []), ([6], [6]), ([], []), ([8], [8]), ([9], [9]), ([7, 10, 5], [7, 10]), ([], []), ([], []), ([12, 5, 11, 0, 1, 2, 3, 4, 5, 12, 13], [5, 12]), ([13, 11, 14, 0, 1, 2, 3, 4, 5, 6, 7, 8, 9, 10, 11, 12, 13, 14], [11, 13])])
def ratio_Compare.B3 : List Nat := [0, 1, 0, 4, 12, 31, 0, 64, 0, 256, 768, 2047, 0, 0, 16383, 32767]
theorem ratio_Compare.tab3 : rtab .any (opsOf Try.f31 3) = ratio_Compare.T3 := by kernel_rfl
theorem ratio_Compare.bits3 : waitsOk ratio_Compare.T3.2 ratio_Compare.B3 = true := by kernel_rfl
set_option maxHeartbeats 8000000 in
set_option maxRecDepth 100000 in
theorem ratio_Compare.calls (k : Nat) (a0_0 : Int) (a0_1 : Int) (a1_0 : Int) (a1_1 : Int) (r : Int) (w : World) (h : ratio_Compare.f k a0_0 a0_1 a1_0 a1_1 = some r) :
  Calls Try.prog 31 #[.agg #[.int .i64 a0_0, .int .i64 a0_1], .agg #[.int .i64 a1_0, .int .i64 a1_1]] w fun e w' => e = .returned (.int .i64 r) ∧ Below w.heap.size w w' := by
 have hu35 := Try.underlying35
 have hu58 := Try.underlying58
 have HB := Aside0.mk (Below.refl w.heap.size w)
 have H : ((ratio_Valid.f k a0_0 a0_1).bind fun t446 => (if t446 = true then ((ratio_Valid.f k a1_0 a1_1).bind fun t447 => (ratio_Compare.j0 k (!t447) a0_0 a0_1 a1_0 a1_1)) else (ratio_Compare.j0 k true a0_0 a0_1 a1_0 a1_1))) = some r := h
 clear h
 have HC3 := Aside0.mk H
 clear H
 go_enter Try.func31, Try.ntmps31
 go_upto_region 1 with (first | ((with_reducible refine gate_dst (N := 2) rfl ?_); refine box_event ?hg (N := 2) ?hd (cs := #[.int .i64 a0_0, .int .i64 a0_1]) (t := 35) ?hr ?_; (case hd => rfl); (case hg => rfl); (case hr => first | (go_simp; done) | (go_simp; rfl)); intro gb444 hg w4 hbox hb; have BK444 := Aside0.mk (hbox); have GW444 := gs HB hg; have GE444 := gs HB hg; replace HB := wb HB hb; clear hb hbox hg) | ((with_reducible refine gate_dst (N := 3) rfl ?_); refine box_event ?hg (N := 3) ?hd (cs := #[.int .i64 a1_0, .int .i64 a1_1]) (t := 35) ?hr ?_; (case hd => rfl); (case hg => rfl); (case hr => first | (go_simp; done) | (go_simp; rfl)); intro gb445 hg w5 hbox hb; have BK445 := Aside0.mk (hbox); have GW445 := gs HB hg; have GE445 := gs HB hg; have NB444_445 := nl BK444 hg; have NB445_444 := nr BK444 hg; replace BK444 := kb BK444 hb; replace HB := wb HB hb; clear hb hbox hg))
 (try simp only [Act.put, List.setIfInBounds_toArray, List.set_cons_zero, List.set_cons_succ])
 go_cut [14] (fun v14 wc => ∃ (kq : Nat) (x14_2 : Bool), v14 = .bool x14_2 ∧ Aside0 (ratio_Compare.j0 kq x14_2 a0_0 a0_1 a1_0 a1_1 = some r) ∧ Aside0 (kq ≤ k) ∧ Aside0 (wc.heap[gb444]? = some (.cells #[.int .i64 a0_0, .int .i64 a0_1] 35 (0, 0))) ∧ Aside0 (wc.heap[gb445]? = some (.cells #[.int .i64 a1_0, .int .i64 a1_1] 35 (0, 0))) ∧ Aside0 (Below w.heap.size w wc))
 case first =>
  have H := HC3.out
  clear HC3
  replace H := Option.bind_eq_some_iff.mp H
  obtain ⟨t446, A60, H⟩ := H
  replace H : (if t446 = true then ((ratio_Valid.f k a1_0 a1_1).bind fun t447 => (ratio_Compare.j0 k (!t447) a0_0 a0_1 a1_0 a1_1)) else (ratio_Compare.j0 k true a0_0 a0_1 a1_0 a1_1)) = some r := H
  have A6 := Aside0.mk A60
  clear A60
  by_cases c7 : t446 = true
  ·subst c7
   have H1 : ((ratio_Valid.f k a1_0 a1_1).bind fun t447 => (ratio_Compare.j0 k (!t447) a0_0 a0_1 a1_0 a1_1)) = some r := by rw [if_pos rfl] at H; exact H
   clear H
   have H := H1
   clear H1
   replace H := Option.bind_eq_some_iff.mp H
   obtain ⟨t447, A80, H⟩ := H
   replace H : (ratio_Compare.j0 k (!t447) a0_0 a0_1 a1_0 a1_1) = some r := H
   have A8 := Aside0.mk A80
   clear A80
   have H' := Aside0.mk H
   clear H
   obtain ⟨hnb9, hnc9⟩ := n2 NB444_445
   have hcz10_0 : w5.cell? ⟨gb444, 0, none⟩ = some (.int .i64 a0_0) := (blk_cell BK444.out 0).trans rfl
   have hcz10_1 : w5.cell? ⟨gb444, 1, none⟩ = some (.int .i64 a0_1) := (blk_cell BK444.out 1).trans rfl
   have hfz10_0 := blk_frozen BK444.out 0
   have hfz10_1 := blk_frozen BK444.out 1
   go_wp2_with (first | ((with_reducible refine gate_callee (f := 24) rfl ?_); refine goesL_ (some 8) rfl rfl Try.func24 (by kernel_rfl) rfl #[.agg #[.int .i64 a0_0, .int .i64 a0_1]] rfl (by (try simp only [List.map_toArray, List.map_cons, List.map_nil]); first | done | rfl | (simp only [List.length_drop, List.length_take]; rfl)) ?_; (with_reducible refine (ratio_Valid.calls k a0_0 a0_1 true _ A6.out).mono ?_); rintro e w11 ⟨rfl, hb⟩; refine ⟨_, rfl, ?_⟩; replace BK444 := kb BK444 hb; replace BK445 := kb BK445 hb; replace HB := wb HB hb; (try clear hb); (try clear hb2); (try clear hk); (try clear hi); have hcz12_0 : w11.cell? ⟨gb445, 0, none⟩ = some (.int .i64 a1_0) := (blk_cell BK445.out 0).trans rfl; have hcz12_1 : w11.cell? ⟨gb445, 1, none⟩ = some (.int .i64 a1_1) := (blk_cell BK445.out 1).trans rfl; have hfz12_0 := blk_frozen BK445.out 0; have hfz12_1 := blk_frozen BK445.out 1) | (go_at_call 24; (with_reducible refine (ratio_Valid.calls k a1_0 a1_1 t447 _ A8.out).mono ?_); rintro e w13 ⟨rfl, hb⟩; replace BK444 := kb BK444 hb; replace BK445 := kb BK445 hb; replace HB := wb HB hb; (try clear hb); (try clear hb2); (try clear hk); (try clear hi)))
   go_meet
   case rel => exact ⟨_, (!t447), (by first | rfl | (simp; done) | (simp [*]; done)), H', ⟨by first | omega | exact Nat.le_refl _⟩, ⟨bq BK444⟩, ⟨bq BK445⟩, ⟨bw HB⟩⟩
  ·replace c7 := Bool.eq_false_iff.mpr c7
   subst c7
   have H1 : (ratio_Compare.j0 k true a0_0 a0_1 a1_0 a1_1) = some r := by rw [if_neg (show ¬ (false = true) by decide)] at H; exact H
   clear H
   have H := H1
   clear H1
   have H' := Aside0.mk H
   clear H
   obtain ⟨hnb14, hnc14⟩ := n2 NB444_445
   have hcz15_0 : w5.cell? ⟨gb444, 0, none⟩ = some (.int .i64 a0_0) := (blk_cell BK444.out 0).trans rfl
   have hcz15_1 : w5.cell? ⟨gb444, 1, none⟩ = some (.int .i64 a0_1) := (blk_cell BK444.out 1).trans rfl
   have hfz15_0 := blk_frozen BK444.out 0
   have hfz15_1 := blk_frozen BK444.out 1
   go_wp2_with (first | ((with_reducible refine gate_callee (f := 24) rfl ?_); refine goesL_ (some 8) rfl rfl Try.func24 (by kernel_rfl) rfl #[.agg #[.int .i64 a0_0, .int .i64 a0_1]] rfl (by (try simp only [List.map_toArray, List.map_cons, List.map_nil]); first | done | rfl | (simp only [List.length_drop, List.length_take]; rfl)) ?_; (with_reducible refine (ratio_Valid.calls k a0_0 a0_1 false _ A6.out).mono ?_); rintro e w16 ⟨rfl, hb⟩; refine ⟨_, rfl, ?_⟩; replace BK444 := kb BK444 hb; replace BK445 := kb BK445 hb; replace HB := wb HB hb; (try clear hb); (try clear hb2); (try clear hk); (try clear hi)))
   go_meet
   case rel => exact ⟨_, (true), (by first | rfl | (simp; done) | (simp [*]; done)), H', ⟨by first | omega | exact Nat.le_refl _⟩, ⟨bq BK444⟩, ⟨bq BK445⟩, ⟨bw HB⟩⟩
 case rest =>
  clear HC3
  try clear c1
  try clear c2
  try clear p2
  try clear c3
  try clear c7
  try clear c9
  try clear c14
  try clear hcz10_0
  try clear hcz10_1
  try clear hcz12_0
  try clear hcz12_1
  try clear hcz15_0
  try clear hcz15_1
  try clear hfz10_0
  try clear hfz10_1
  try clear hfz12_0
  try clear hfz12_1
  try clear hfz15_0
  try clear hfz15_1
  obtain ⟨kq, x14_2, rfl, HA, HJ2, BK444, BK445, HB⟩ := hcut
  cases kq with
  | zero => exact absurd HA.out (by simp [ratio_Compare.j0])
  | succ kj2 =>
   have H := HA.out
   clear HA
   simp only [ratio_Compare.j0] at H
   by_cases c17 : x14_2 = true
   ·subst c17
    have H1 : (some 0) = some r := by rw [if_pos rfl] at H; exact H
    clear H
    have H := H1
    clear H1
    obtain rfl := Option.some.inj H
    go_wp2
    go_ret
    exact ⟨by first | rfl | (simp [errW_none, errW_some] <;> rfl) | (simp [*, errW_none, errW_some] <;> rfl), bw HB⟩
   ·replace c17 := Bool.eq_false_iff.mpr c17
    subst c17
    have H1 : ((ratio_times.f a0_0 (IntKind.u64.wrap (a1_1))).bind fun bt448 => ((ratio_times.f a1_0 (IntKind.u64.wrap (a0_1))).bind fun bt451 => (if bt448.1 = true then (ratio_Compare.j1 kj2 (!bt451.1) bt448.1 bt448.2.1 bt448.2.2 bt451.1 bt451.2.1 bt451.2.2) else (ratio_Compare.j1 kj2 false bt448.1 bt448.2.1 bt448.2.2 bt451.1 bt451.2.1 bt451.2.2)))) = some r := by rw [if_neg (show ¬ (false = true) by decide)] at H; exact H
    clear H
    have H := H1
    clear H1
    replace H := Option.bind_eq_some_iff.mp H
    obtain ⟨⟨t448, t449, t450⟩, A180, H⟩ := H
    replace H : ((ratio_times.f a1_0 (IntKind.u64.wrap (a0_1))).bind fun bt451 => (if t448 = true then (ratio_Compare.j1 kj2 (!bt451.1) t448 t449 t450 bt451.1 bt451.2.1 bt451.2.2) else (ratio_Compare.j1 kj2 false t448 t449 t450 bt451.1 bt451.2.1 bt451.2.2))) = some r := H
    have A18 := Aside0.mk A180
    clear A180
    replace H := Option.bind_eq_some_iff.mp H
    obtain ⟨⟨t451, t452, t453⟩, A190, H⟩ := H
    replace H : (if t448 = true then (ratio_Compare.j1 kj2 (!t451) t448 t449 t450 t451 t452 t453) else (ratio_Compare.j1 kj2 false t448 t449 t450 t451 t452 t453)) = some r := H
    have A19 := Aside0.mk A190
    clear A190
    have HC20 := Aside0.mk H
    clear H
    try go_wp2
    have n0_ := Aside0.mk (blk_drew BK444.out)
    have n1_ := Aside0.mk (blk_drew BK445.out)
    have n2_ := Aside0.mk (below_drew1 HB.out)
    clear BK444
    clear BK445
    clear HB
    have BK444 := n0_
    have BK445 := n1_
    have HB := n2_
    clear n0_ n1_ n2_
    refine start_ (n := 16) (S := fun w' => w'.cell? ⟨gb444, 0, none⟩ = some (.int .i64 a0_0) ∧ w'.cell? ⟨gb444, 1, none⟩ = some (.int .i64 a0_1) ∧ w'.cell? ⟨gb445, 0, none⟩ = some (.int .i64 a1_0) ∧ w'.cell? ⟨gb445, 1, none⟩ = some (.int .i64 a1_1)) (ds := []) #[false, false, false, false, false, false, false, false, false, false, false, false, false, false, false, false] (by kernel_rfl) rfl rfl ⟨(blk_cell BK444.out 0).trans rfl, (blk_cell BK444.out 1).trans rfl, (blk_cell BK445.out 0).trans rfl, (blk_cell BK445.out 1).trans rfl⟩ (fun hHeld => ?_); refine with_tabW ratio_Compare.tab3 ratio_Compare.bits3 (fun HT_ HW_ => ?_)
    generalize wc.drew = w21 at BK444 BK445 HB hHeld ⊢
    refine pure_ (i := 0) (N := some 15) (v := ?_) (a' := ?_) #[true, false, false, false, false, false, false, false, false, false, false, false, false, false, false, false] rfl rfl (any_of HT_.out (by kernel_rfl)) (fun _ _ _ h => h) (Or.inl ⟨by rfl, ?_⟩) ?_ ?_
    rotate_left
    ·intro w'
     go_simp
     with_reducible rfl
    rotate_left
    ·simp only [Act.put, List.setIfInBounds_toArray, List.set_cons_zero, List.set_cons_succ, i64_w, i32_w]
     rfl
    refine pure_ (i := 2) (N := some 17) (v := ?_) (a' := ?_) #[true, false, true, false, false, false, false, false, false, false, false, false, false, false, false, false] rfl rfl (any_of HT_.out (by kernel_rfl)) (fun _ _ _ h => h) (Or.inl ⟨by rfl, ?_⟩) ?_ ?_
    rotate_left
    ·intro w'
     go_simp
     with_reducible rfl
    rotate_left
    ·simp only [Act.put, List.setIfInBounds_toArray, List.set_cons_zero, List.set_cons_succ, i64_w, i32_w]
     rfl
    refine pure_ (i := 6) (N := some 21) (v := ?_) (a' := ?_) #[true, false, true, false, false, false, true, false, false, false, false, false, false, false, false, false] rfl rfl (any_of HT_.out (by kernel_rfl)) (fun _ _ _ h => h) (Or.inl ⟨by rfl, ?_⟩) ?_ ?_
    rotate_left
    ·intro w'
     go_simp
     with_reducible rfl
    rotate_left
    ·simp only [Act.put, List.setIfInBounds_toArray, List.set_cons_zero, List.set_cons_succ, i64_w, i32_w]
     rfl
    refine pure_ (i := 8) (N := some 23) (v := ?_) (a' := ?_) #[true, false, true, false, false, false, true, false, true, false, false, false, false, false, false, false] rfl rfl (any_of HT_.out (by kernel_rfl)) (fun _ _ _ h => h) (Or.inl ⟨by rfl, ?_⟩) ?_ ?_
    rotate_left
    ·intro w'
     go_simp
     with_reducible rfl
    rotate_left
    ·simp only [Act.put, List.setIfInBounds_toArray, List.set_cons_zero, List.set_cons_succ, i64_w, i32_w]
     rfl
    refine take_ (i := 1) (N := some 16) (v := ?_) (a' := ?_) #[true, true, true, false, false, false, true, false, true, false, false, false, false, false, false, false] rfl rfl (take_ofW HT_.out HW_.out (by kernel_rfl)) (fun _ _ _ h => h) (Or.inl ⟨by rfl, ?_⟩) hHeld ?_ ?_
    rotate_left
    ·rintro w' ⟨s0, s1, s2, s3⟩
     go_simp
     with_reducible rfl
    rotate_left
    ·simp only [Act.put, List.setIfInBounds_toArray, List.set_cons_zero, List.set_cons_succ, i64_w, i32_w]
     rfl
    refine take_ (i := 3) (N := some 18) (v := ?_) (a' := ?_) #[true, true, true, true, false, false, true, false, true, false, false, false, false, false, false, false] rfl rfl (take_ofW HT_.out HW_.out (by kernel_rfl)) (fun _ _ _ h => h) (Or.inl ⟨by rfl, ?_⟩) hHeld ?_ ?_
    rotate_left
    ·rintro w' ⟨s0, s1, s2, s3⟩
     go_simp
     with_reducible rfl
    rotate_left
    ·simp only [Act.put, List.setIfInBounds_toArray, List.set_cons_zero, List.set_cons_succ, i64_w, i32_w]
     rfl
    refine pure_ (i := 4) (N := some 19) (v := ?_) (a' := ?_) #[true, true, true, true, true, false, true, false, true, false, false, false, false, false, false, false] rfl rfl (any_of HT_.out (by kernel_rfl)) (fun _ _ _ h => h) (Or.inl ⟨by rfl, ?_⟩) ?_ ?_
    rotate_left
    ·intro w'
     go_simp
     with_reducible rfl
    rotate_left
    ·simp only [Act.put, List.setIfInBounds_toArray, List.set_cons_zero, List.set_cons_succ, i64_w, i32_w]
     rfl
    refine take_ (i := 7) (N := some 22) (v := ?_) (a' := ?_) #[true, true, true, true, true, false, true, true, true, false, false, false, false, false, false, false] rfl rfl (take_ofW HT_.out HW_.out (by kernel_rfl)) (fun _ _ _ h => h) (Or.inl ⟨by rfl, ?_⟩) hHeld ?_ ?_
    rotate_left
    ·rintro w' ⟨s0, s1, s2, s3⟩
     go_simp
     with_reducible rfl
    rotate_left
    ·simp only [Act.put, List.setIfInBounds_toArray, List.set_cons_zero, List.set_cons_succ, i64_w, i32_w]
     rfl
    refine take_ (i := 9) (N := some 24) (v := ?_) (a' := ?_) #[true, true, true, true, true, false, true, true, true, true, false, false, false, false, false, false] rfl rfl (take_ofW HT_.out HW_.out (by kernel_rfl)) (fun _ _ _ h => h) (Or.inl ⟨by rfl, ?_⟩) hHeld ?_ ?_
    rotate_left
    ·rintro w' ⟨s0, s1, s2, s3⟩
     go_simp
     with_reducible rfl
    rotate_left
    ·simp only [Act.put, List.setIfInBounds_toArray, List.set_cons_zero, List.set_cons_succ, i64_w, i32_w]
     rfl
    refine pure_ (i := 10) (N := some 25) (v := ?_) (a' := ?_) #[true, true, true, true, true, false, true, true, true, true, true, false, false, false, false, false] rfl rfl (any_of HT_.out (by kernel_rfl)) (fun _ _ _ h => h) (Or.inl ⟨by rfl, ?_⟩) ?_ ?_
    rotate_left
    ·intro w'
     go_simp
     with_reducible rfl
    rotate_left
    ·simp only [Act.put, List.setIfInBounds_toArray, List.set_cons_zero, List.set_cons_succ, i64_w, i32_w]
     rfl
    refine join_ (σ := Nat × Nat) 2 #[true, true, true, true, true, true, true, true, true, true, true, true, true, true, false, false] (fun s_ => [(20, .agg #[.bool t448, .int .u64 t449, .int .u64 t450]), (26, .agg #[.bool t451, .int .u64 t452, .int .u64 t453]), (5, .pointer (some ⟨s_.1, 0, none⟩)), (6, .pointer (some ⟨s_.2, 0, none⟩))]) (fun s_ w' => (w'.cell? ⟨gb444, 0, none⟩ = some (.int .i64 a0_0) ∧ w'.cell? ⟨gb444, 1, none⟩ = some (.int .i64 a0_1) ∧ w'.cell? ⟨gb445, 0, none⟩ = some (.int .i64 a1_0) ∧ w'.cell? ⟨gb445, 1, none⟩ = some (.int .i64 a1_1)) ∧ (w'.heap[gb444]? = some (.cells #[.int .i64 a0_0, .int .i64 a0_1] 35 (0, 0))) ∧ (w'.heap[gb445]? = some (.cells #[.int .i64 a1_0, .int .i64 a1_1] 35 (0, 0))) ∧ (w'.heap[s_.1]? = some (.cells #[.bool false, .int .u64 0, .int .u64 0] 58 (0, 0))) ∧ (w'.heap[s_.2]? = some (.cells #[.bool false, .int .u64 0, .int .u64 0] 58 (0, 0))) ∧ (w.heap.size ≤ s_.1) ∧ (w.heap.size ≤ s_.1) ∧ (gb444 ≠ s_.1) ∧ (s_.1 ≠ gb444) ∧ (gb445 ≠ s_.1) ∧ (s_.1 ≠ gb445) ∧ (s_.2 ≠ s_.1) ∧ (s_.1 ≠ s_.2) ∧ (w.heap.size ≤ s_.2) ∧ (w.heap.size ≤ s_.2) ∧ (gb444 ≠ s_.2) ∧ (s_.2 ≠ gb444) ∧ (gb445 ≠ s_.2) ∧ (s_.2 ≠ gb445) ∧ (Below w.heap.size w w')) ?_ ?_
    rotate_left
    ·intro hJ5_11_12_13
     refine join_ (σ := Nat) 3 #[true, true, true, true, true, true, true, true, true, true, true, true, true, false, false, false] (fun s_ => [(20, .agg #[.bool t448, .int .u64 t449, .int .u64 t450]), (26, .agg #[.bool t451, .int .u64 t452, .int .u64 t453]), (5, .pointer (some ⟨s_, 0, none⟩))]) (fun s_ w' => (w'.cell? ⟨gb444, 0, none⟩ = some (.int .i64 a0_0) ∧ w'.cell? ⟨gb444, 1, none⟩ = some (.int .i64 a0_1) ∧ w'.cell? ⟨gb445, 0, none⟩ = some (.int .i64 a1_0) ∧ w'.cell? ⟨gb445, 1, none⟩ = some (.int .i64 a1_1)) ∧ (w'.heap[gb444]? = some (.cells #[.int .i64 a0_0, .int .i64 a0_1] 35 (0, 0))) ∧ (w'.heap[gb445]? = some (.cells #[.int .i64 a1_0, .int .i64 a1_1] 35 (0, 0))) ∧ (w'.heap[s_]? = some (.cells #[.bool false, .int .u64 0, .int .u64 0] 58 (0, 0))) ∧ (w.heap.size ≤ s_) ∧ (w.heap.size ≤ s_) ∧ (gb444 ≠ s_) ∧ (s_ ≠ gb444) ∧ (gb445 ≠ s_) ∧ (s_ ≠ gb445) ∧ (Below w.heap.size w w')) ?_ ?_
     rotate_left
     ·intro hJ5_11_12
      refine join_ (σ := Nat) 3 #[true, true, true, true, true, true, true, true, true, true, true, true, false, true, false, false] (fun s_ => [(20, .agg #[.bool t448, .int .u64 t449, .int .u64 t450]), (26, .agg #[.bool t451, .int .u64 t452, .int .u64 t453]), (6, .pointer (some ⟨s_, 0, none⟩))]) (fun s_ w' => (w'.cell? ⟨gb444, 0, none⟩ = some (.int .i64 a0_0) ∧ w'.cell? ⟨gb444, 1, none⟩ = some (.int .i64 a0_1) ∧ w'.cell? ⟨gb445, 0, none⟩ = some (.int .i64 a1_0) ∧ w'.cell? ⟨gb445, 1, none⟩ = some (.int .i64 a1_1)) ∧ (w'.heap[gb444]? = some (.cells #[.int .i64 a0_0, .int .i64 a0_1] 35 (0, 0))) ∧ (w'.heap[gb445]? = some (.cells #[.int .i64 a1_0, .int .i64 a1_1] 35 (0, 0))) ∧ (w'.heap[s_]? = some (.cells #[.bool false, .int .u64 0, .int .u64 0] 58 (0, 0))) ∧ (w.heap.size ≤ s_) ∧ (w.heap.size ≤ s_) ∧ (gb444 ≠ s_) ∧ (s_ ≠ gb444) ∧ (gb445 ≠ s_) ∧ (s_ ≠ gb445) ∧ (Below w.heap.size w w')) ?_ ?_
      rotate_left
      ·intro hJ5_11_13
       refine join_ (σ := Nat × Nat) 3 #[true, true, true, true, true, true, true, true, true, true, true, false, true, true, false, false] (fun s_ => [(20, .agg #[.bool t448, .int .u64 t449, .int .u64 t450]), (5, .pointer (some ⟨s_.1, 0, none⟩)), (6, .pointer (some ⟨s_.2, 0, none⟩))]) (fun s_ w' => (w'.cell? ⟨gb444, 0, none⟩ = some (.int .i64 a0_0) ∧ w'.cell? ⟨gb444, 1, none⟩ = some (.int .i64 a0_1) ∧ w'.cell? ⟨gb445, 0, none⟩ = some (.int .i64 a1_0) ∧ w'.cell? ⟨gb445, 1, none⟩ = some (.int .i64 a1_1)) ∧ (w'.heap[gb444]? = some (.cells #[.int .i64 a0_0, .int .i64 a0_1] 35 (0, 0))) ∧ (w'.heap[gb445]? = some (.cells #[.int .i64 a1_0, .int .i64 a1_1] 35 (0, 0))) ∧ (w'.heap[s_.1]? = some (.cells #[.bool false, .int .u64 0, .int .u64 0] 58 (0, 0))) ∧ (w'.heap[s_.2]? = some (.cells #[.bool false, .int .u64 0, .int .u64 0] 58 (0, 0))) ∧ (w.heap.size ≤ s_.1) ∧ (w.heap.size ≤ s_.1) ∧ (gb444 ≠ s_.1) ∧ (s_.1 ≠ gb444) ∧ (gb445 ≠ s_.1) ∧ (s_.1 ≠ gb445) ∧ (s_.2 ≠ s_.1) ∧ (s_.1 ≠ s_.2) ∧ (w.heap.size ≤ s_.2) ∧ (w.heap.size ≤ s_.2) ∧ (gb444 ≠ s_.2) ∧ (s_.2 ≠ gb444) ∧ (gb445 ≠ s_.2) ∧ (s_.2 ≠ gb445) ∧ (Below w.heap.size w w')) ?_ ?_
       rotate_left
       ·intro hJ5_12_13
        refine join_ (σ := Unit) 4 #[true, true, true, true, true, true, true, true, true, true, true, true, false, false, false, false] (fun s_ => [(20, .agg #[.bool t448, .int .u64 t449, .int .u64 t450]), (26, .agg #[.bool t451, .int .u64 t452, .int .u64 t453])]) (fun s_ w' => (w'.cell? ⟨gb444, 0, none⟩ = some (.int .i64 a0_0) ∧ w'.cell? ⟨gb444, 1, none⟩ = some (.int .i64 a0_1) ∧ w'.cell? ⟨gb445, 0, none⟩ = some (.int .i64 a1_0) ∧ w'.cell? ⟨gb445, 1, none⟩ = some (.int .i64 a1_1)) ∧ (w'.heap[gb444]? = some (.cells #[.int .i64 a0_0, .int .i64 a0_1] 35 (0, 0))) ∧ (w'.heap[gb445]? = some (.cells #[.int .i64 a1_0, .int .i64 a1_1] 35 (0, 0))) ∧ (Below w.heap.size w w')) ?_ ?_
        rotate_left
        ·intro hJ5_11
         refine join_ (σ := Nat) 4 #[true, true, true, true, true, true, true, true, true, true, true, false, true, false, false, false] (fun s_ => [(20, .agg #[.bool t448, .int .u64 t449, .int .u64 t450]), (5, .pointer (some ⟨s_, 0, none⟩))]) (fun s_ w' => (w'.cell? ⟨gb444, 0, none⟩ = some (.int .i64 a0_0) ∧ w'.cell? ⟨gb444, 1, none⟩ = some (.int .i64 a0_1) ∧ w'.cell? ⟨gb445, 0, none⟩ = some (.int .i64 a1_0) ∧ w'.cell? ⟨gb445, 1, none⟩ = some (.int .i64 a1_1)) ∧ (w'.heap[gb444]? = some (.cells #[.int .i64 a0_0, .int .i64 a0_1] 35 (0, 0))) ∧ (w'.heap[gb445]? = some (.cells #[.int .i64 a1_0, .int .i64 a1_1] 35 (0, 0))) ∧ (w'.heap[s_]? = some (.cells #[.bool false, .int .u64 0, .int .u64 0] 58 (0, 0))) ∧ (w.heap.size ≤ s_) ∧ (w.heap.size ≤ s_) ∧ (gb444 ≠ s_) ∧ (s_ ≠ gb444) ∧ (gb445 ≠ s_) ∧ (s_ ≠ gb445) ∧ (Below w.heap.size w w')) ?_ ?_
         rotate_left
         ·intro hJ5_12
          refine join_ (σ := Nat) 4 #[true, true, true, true, true, true, true, true, true, true, true, false, false, true, false, false] (fun s_ => [(20, .agg #[.bool t448, .int .u64 t449, .int .u64 t450]), (6, .pointer (some ⟨s_, 0, none⟩))]) (fun s_ w' => (w'.cell? ⟨gb444, 0, none⟩ = some (.int .i64 a0_0) ∧ w'.cell? ⟨gb444, 1, none⟩ = some (.int .i64 a0_1) ∧ w'.cell? ⟨gb445, 0, none⟩ = some (.int .i64 a1_0) ∧ w'.cell? ⟨gb445, 1, none⟩ = some (.int .i64 a1_1)) ∧ (w'.heap[gb444]? = some (.cells #[.int .i64 a0_0, .int .i64 a0_1] 35 (0, 0))) ∧ (w'.heap[gb445]? = some (.cells #[.int .i64 a1_0, .int .i64 a1_1] 35 (0, 0))) ∧ (w'.heap[s_]? = some (.cells #[.bool false, .int .u64 0, .int .u64 0] 58 (0, 0))) ∧ (w.heap.size ≤ s_) ∧ (w.heap.size ≤ s_) ∧ (gb444 ≠ s_) ∧ (s_ ≠ gb444) ∧ (gb445 ≠ s_) ∧ (s_ ≠ gb445) ∧ (Below w.heap.size w w')) ?_ ?_
          rotate_left
          ·intro hJ5_13
           refine join_ (σ := Nat × Nat) 4 #[true, true, true, true, true, false, true, true, true, true, true, false, true, true, false, false] (fun s_ => [(5, .pointer (some ⟨s_.1, 0, none⟩)), (6, .pointer (some ⟨s_.2, 0, none⟩))]) (fun s_ w' => (w'.cell? ⟨gb444, 0, none⟩ = some (.int .i64 a0_0) ∧ w'.cell? ⟨gb444, 1, none⟩ = some (.int .i64 a0_1) ∧ w'.cell? ⟨gb445, 0, none⟩ = some (.int .i64 a1_0) ∧ w'.cell? ⟨gb445, 1, none⟩ = some (.int .i64 a1_1)) ∧ (w'.heap[gb444]? = some (.cells #[.int .i64 a0_0, .int .i64 a0_1] 35 (0, 0))) ∧ (w'.heap[gb445]? = some (.cells #[.int .i64 a1_0, .int .i64 a1_1] 35 (0, 0))) ∧ (w'.heap[s_.1]? = some (.cells #[.bool false, .int .u64 0, .int .u64 0] 58 (0, 0))) ∧ (w'.heap[s_.2]? = some (.cells #[.bool false, .int .u64 0, .int .u64 0] 58 (0, 0))) ∧ (w.heap.size ≤ s_.1) ∧ (w.heap.size ≤ s_.1) ∧ (gb444 ≠ s_.1) ∧ (s_.1 ≠ gb444) ∧ (gb445 ≠ s_.1) ∧ (s_.1 ≠ gb445) ∧ (s_.2 ≠ s_.1) ∧ (s_.1 ≠ s_.2) ∧ (w.heap.size ≤ s_.2) ∧ (w.heap.size ≤ s_.2) ∧ (gb444 ≠ s_.2) ∧ (s_.2 ≠ gb444) ∧ (gb445 ≠ s_.2) ∧ (s_.2 ≠ gb445) ∧ (Below w.heap.size w w')) ?_ ?_
           rotate_left
           ·intro hJ12_13
            refine join_ (σ := Unit) 5 #[true, true, true, true, true, true, true, true, true, true, true, false, false, false, false, false] (fun s_ => [(20, .agg #[.bool t448, .int .u64 t449, .int .u64 t450])]) (fun s_ w' => (w'.cell? ⟨gb444, 0, none⟩ = some (.int .i64 a0_0) ∧ w'.cell? ⟨gb444, 1, none⟩ = some (.int .i64 a0_1) ∧ w'.cell? ⟨gb445, 0, none⟩ = some (.int .i64 a1_0) ∧ w'.cell? ⟨gb445, 1, none⟩ = some (.int .i64 a1_1)) ∧ (w'.heap[gb444]? = some (.cells #[.int .i64 a0_0, .int .i64 a0_1] 35 (0, 0))) ∧ (w'.heap[gb445]? = some (.cells #[.int .i64 a1_0, .int .i64 a1_1] 35 (0, 0))) ∧ (Below w.heap.size w w')) ?_ ?_
            rotate_left
            ·intro hJ5
             refine join_ (σ := Nat) 5 #[true, true, true, true, true, false, true, true, true, true, true, false, true, false, false, false] (fun s_ => [(5, .pointer (some ⟨s_, 0, none⟩))]) (fun s_ w' => (w'.cell? ⟨gb444, 0, none⟩ = some (.int .i64 a0_0) ∧ w'.cell? ⟨gb444, 1, none⟩ = some (.int .i64 a0_1) ∧ w'.cell? ⟨gb445, 0, none⟩ = some (.int .i64 a1_0) ∧ w'.cell? ⟨gb445, 1, none⟩ = some (.int .i64 a1_1)) ∧ (w'.heap[gb444]? = some (.cells #[.int .i64 a0_0, .int .i64 a0_1] 35 (0, 0))) ∧ (w'.heap[gb445]? = some (.cells #[.int .i64 a1_0, .int .i64 a1_1] 35 (0, 0))) ∧ (w'.heap[s_]? = some (.cells #[.bool false, .int .u64 0, .int .u64 0] 58 (0, 0))) ∧ (w.heap.size ≤ s_) ∧ (w.heap.size ≤ s_) ∧ (gb444 ≠ s_) ∧ (s_ ≠ gb444) ∧ (gb445 ≠ s_) ∧ (s_ ≠ gb445) ∧ (Below w.heap.size w w')) ?_ ?_
             rotate_left
             ·intro hJ12
              refine join_ (σ := Nat) 5 #[true, true, true, true, true, false, true, true, true, true, true, false, false, true, false, false] (fun s_ => [(6, .pointer (some ⟨s_, 0, none⟩))]) (fun s_ w' => (w'.cell? ⟨gb444, 0, none⟩ = some (.int .i64 a0_0) ∧ w'.cell? ⟨gb444, 1, none⟩ = some (.int .i64 a0_1) ∧ w'.cell? ⟨gb445, 0, none⟩ = some (.int .i64 a1_0) ∧ w'.cell? ⟨gb445, 1, none⟩ = some (.int .i64 a1_1)) ∧ (w'.heap[gb444]? = some (.cells #[.int .i64 a0_0, .int .i64 a0_1] 35 (0, 0))) ∧ (w'.heap[gb445]? = some (.cells #[.int .i64 a1_0, .int .i64 a1_1] 35 (0, 0))) ∧ (w'.heap[s_]? = some (.cells #[.bool false, .int .u64 0, .int .u64 0] 58 (0, 0))) ∧ (w.heap.size ≤ s_) ∧ (w.heap.size ≤ s_) ∧ (gb444 ≠ s_) ∧ (s_ ≠ gb444) ∧ (gb445 ≠ s_) ∧ (s_ ≠ gb445) ∧ (Below w.heap.size w w')) ?_ ?_
              rotate_left
              ·intro hJ13
               refine three_ (i := 5) (j := 12) (k := 13) (Ni := some 20) (Nj := some 5) (Nk := some 6) #[true, true, true, true, true, true, true, true, true, true, true, false, false, false, false, false] #[true, true, true, true, true, false, true, true, true, true, true, false, true, false, false, false] #[true, true, true, true, true, false, true, true, true, true, true, false, false, true, false, false] rfl rfl rfl rfl rfl rfl (three_of HT_.out (by kernel_rfl)) (by decide) (by decide) (by decide) (fun K hK => ?_) (fun K hK => ?_) (fun K hK => ?_)
               ·skip
                refine goes_ Try.func56 (by kernel_rfl) rfl #[.int .i64 a0_0, .int .u64 (IntKind.u64.wrap (a1_1))] (by rfl) rfl rfl (by (try simp only [List.map_toArray, List.map_cons, List.map_nil]); first | done | rfl | (simp only [List.length_drop, List.length_take]; rfl)) ?_
                with_reducible refine (ratio_times.calls a0_0 (IntKind.u64.wrap (a1_1)) t448 t449 t450 _ A18.out).mono ?_
                rintro e w22 ⟨rfl, hb⟩
                refine ⟨_, rfl, ?_⟩
                have n0_ := kb BK444 hb
                have n1_ := kb BK445 hb
                have n2_ := wb HB hb
                clear BK444
                clear BK445
                clear HB
                have BK444 := n0_
                have BK445 := n1_
                have HB := n2_
                clear n0_ n1_ n2_
                (try clear hb)
                (try clear hb2)
                (try clear hk)
                (try clear hi)
                refine hK.out _ _ ⟨(blk_cell BK444.out 0).trans rfl, (blk_cell BK444.out 1).trans rfl, (blk_cell BK445.out 0).trans rfl, (blk_cell BK445.out 1).trans rfl⟩ (fun hHeld => ?_)
                clear hK K
                refine norm_ (a' := ?_) ?_ ?_
                rotate_left
                ·show Act.put _ (some 20) _ = _
                 simp only [Act.put, List.setIfInBounds_toArray, List.set_cons_zero, List.set_cons_succ, i64_w, i32_w]
                 rfl
                exact norm_ (by first | (simp only [putAll, Act.put, List.setIfInBounds_toArray, List.set_cons_zero, List.set_cons_succ]; done) | (simp only [putAll, Act.put, List.setIfInBounds_toArray, List.set_cons_zero, List.set_cons_succ]; rfl)) (hJ5 () _ ⟨hHeld, (bq BK444), (bq BK445), (bw HB)⟩)
               ·skip
                refine box_step ?hg (N := 5) ?hd (cs := #[.bool false, .int .u64 0, .int .u64 0]) (t := 58) ?hr ?_; (case hd => rfl); (case hg => rfl); (case hr => first | (go_simp; done) | (go_simp; rfl))
                intro gb454 hg w22 hbox hb
                have n0_ := kb BK444 hb
                have n1_ := kb BK445 hb
                have n2_ := wb HB hb
                have n3_ := Aside0.mk (hbox)
                have n4_ := gs HB hg
                have n5_ := gs HB hg
                have n6_ := nl BK444 hg
                have n7_ := nr BK444 hg
                have n8_ := nl BK445 hg
                have n9_ := nr BK445 hg
                clear BK444
                clear BK445
                clear HB
                have BK444 := n0_
                have BK445 := n1_
                have HB := n2_
                have BK454 := n3_
                have GW454 := n4_
                have GE454 := n5_
                have NB444_454 := n6_
                have NB454_444 := n7_
                have NB445_454 := n8_
                have NB454_445 := n9_
                clear n0_ n1_ n2_ n3_ n4_ n5_ n6_ n7_ n8_ n9_
                clear hb hbox hg
                refine hK.out _ _ ⟨(blk_cell BK444.out 0).trans rfl, (blk_cell BK444.out 1).trans rfl, (blk_cell BK445.out 0).trans rfl, (blk_cell BK445.out 1).trans rfl⟩ (fun hHeld => ?_)
                clear hK K
                refine norm_ (a' := ?_) ?_ ?_
                rotate_left
                ·show Act.put _ (some 5) _ = _
                 simp only [Act.put, List.setIfInBounds_toArray, List.set_cons_zero, List.set_cons_succ, i64_w, i32_w]
                 rfl
                exact norm_ (by first | (simp only [putAll, Act.put, List.setIfInBounds_toArray, List.set_cons_zero, List.set_cons_succ]; done) | (simp only [putAll, Act.put, List.setIfInBounds_toArray, List.set_cons_zero, List.set_cons_succ]; rfl)) (hJ12 (gb454) _ ⟨hHeld, (bq BK444), (bq BK445), (bq BK454), GW454.out, GE454.out, NB444_454.out, NB454_444.out, NB445_454.out, NB454_445.out, (bw HB)⟩)
               ·skip
                refine box_step ?hg (N := 6) ?hd (cs := #[.bool false, .int .u64 0, .int .u64 0]) (t := 58) ?hr ?_; (case hd => rfl); (case hg => rfl); (case hr => first | (go_simp; done) | (go_simp; rfl))
                intro gb455 hg w22 hbox hb
                have n0_ := kb BK444 hb
                have n1_ := kb BK445 hb
                have n2_ := wb HB hb
                have n3_ := Aside0.mk (hbox)
                have n4_ := gs HB hg
                have n5_ := gs HB hg
                have n6_ := nl BK444 hg
                have n7_ := nr BK444 hg
                have n8_ := nl BK445 hg
                have n9_ := nr BK445 hg
                clear BK444
                clear BK445
                clear HB
                have BK444 := n0_
                have BK445 := n1_
                have HB := n2_
                have BK455 := n3_
                have GW455 := n4_
                have GE455 := n5_
                have NB444_455 := n6_
                have NB455_444 := n7_
                have NB445_455 := n8_
                have NB455_445 := n9_
                clear n0_ n1_ n2_ n3_ n4_ n5_ n6_ n7_ n8_ n9_
                clear hb hbox hg
                refine hK.out _ _ ⟨(blk_cell BK444.out 0).trans rfl, (blk_cell BK444.out 1).trans rfl, (blk_cell BK445.out 0).trans rfl, (blk_cell BK445.out 1).trans rfl⟩ (fun hHeld => ?_)
                clear hK K
                refine norm_ (a' := ?_) ?_ ?_
                rotate_left
                ·show Act.put _ (some 6) _ = _
                 simp only [Act.put, List.setIfInBounds_toArray, List.set_cons_zero, List.set_cons_succ, i64_w, i32_w]
                 rfl
                exact norm_ (by first | (simp only [putAll, Act.put, List.setIfInBounds_toArray, List.set_cons_zero, List.set_cons_succ]; done) | (simp only [putAll, Act.put, List.setIfInBounds_toArray, List.set_cons_zero, List.set_cons_succ]; rfl)) (hJ13 (gb455) _ ⟨hHeld, (bq BK444), (bq BK445), (bq BK455), GW455.out, GE455.out, NB444_455.out, NB455_444.out, NB445_455.out, NB455_445.out, (bw HB)⟩)
              ·skip
               rintro gb455 w23 ⟨hS_, h0_, h1_, h2_, h3_, h4_, h5_, h6_, h7_, h8_, h9_⟩
               have n0_ : Aside0 (w23.heap[gb444]? = some (.cells #[.int .i64 a0_0, .int .i64 a0_1] 35 (0, 0))) := ⟨h0_⟩
               have n1_ : Aside0 (w23.heap[gb445]? = some (.cells #[.int .i64 a1_0, .int .i64 a1_1] 35 (0, 0))) := ⟨h1_⟩
               have n2_ : Aside0 (w23.heap[gb455]? = some (.cells #[.bool false, .int .u64 0, .int .u64 0] 58 (0, 0))) := ⟨h2_⟩
               have n3_ : Aside0 (w.heap.size ≤ gb455) := ⟨h3_⟩
               have n4_ : Aside0 (w.heap.size ≤ gb455) := ⟨h4_⟩
               have n5_ : Aside0 (gb444 ≠ gb455) := ⟨h5_⟩
               have n6_ : Aside0 (gb455 ≠ gb444) := ⟨h6_⟩
               have n7_ : Aside0 (gb445 ≠ gb455) := ⟨h7_⟩
               have n8_ : Aside0 (gb455 ≠ gb445) := ⟨h8_⟩
               have n9_ : Aside0 (Below w.heap.size w w23) := ⟨h9_⟩
               clear BK444
               clear BK445
               clear HB
               clear h0_ h1_ h2_ h3_ h4_ h5_ h6_ h7_ h8_ h9_
               have BK444 := n0_
               have BK445 := n1_
               have BK455 := n2_
               have GW455 := n3_
               have GE455 := n4_
               have NB444_455 := n5_
               have NB455_444 := n6_
               have NB445_455 := n7_
               have NB455_445 := n8_
               have HB := n9_
               clear n0_ n1_ n2_ n3_ n4_ n5_ n6_ n7_ n8_ n9_
               have hHeld : w23.cell? ⟨gb444, 0, none⟩ = some (.int .i64 a0_0) ∧ w23.cell? ⟨gb444, 1, none⟩ = some (.int .i64 a0_1) ∧ w23.cell? ⟨gb445, 0, none⟩ = some (.int .i64 a1_0) ∧ w23.cell? ⟨gb445, 1, none⟩ = some (.int .i64 a1_1) := hS_
               refine norm_ (a' := ?_) ?_ ?_
               rotate_left
               ·simp only [putAll, Act.put, List.setIfInBounds_toArray, List.set_cons_zero, List.set_cons_succ]
                rfl
               refine two_ (i := 5) (j := 12) (Ni := some 20) (Nj := some 5) #[true, true, true, true, true, true, true, true, true, true, true, false, false, true, false, false] #[true, true, true, true, true, false, true, true, true, true, true, false, true, true, false, false] rfl rfl rfl rfl (two_of HT_.out (by kernel_rfl)) (by decide) (by decide) (fun K hK => ?_) (fun K hK => ?_)
               ·skip
                refine goes_ Try.func56 (by kernel_rfl) rfl #[.int .i64 a0_0, .int .u64 (IntKind.u64.wrap (a1_1))] (by rfl) rfl rfl (by (try simp only [List.map_toArray, List.map_cons, List.map_nil]); first | done | rfl | (simp only [List.length_drop, List.length_take]; rfl)) ?_
                with_reducible refine (ratio_times.calls a0_0 (IntKind.u64.wrap (a1_1)) t448 t449 t450 _ A18.out).mono ?_
                rintro e w24 ⟨rfl, hb⟩
                refine ⟨_, rfl, ?_⟩
                have n0_ := kb BK444 hb
                have n1_ := kb BK445 hb
                have n2_ := kb BK455 hb
                have n3_ := wb HB hb
                clear BK444
                clear BK445
                clear BK455
                clear HB
                have BK444 := n0_
                have BK445 := n1_
                have BK455 := n2_
                have HB := n3_
                clear n0_ n1_ n2_ n3_
                (try clear hb)
                (try clear hb2)
                (try clear hk)
                (try clear hi)
                refine hK.out _ _ ⟨(blk_cell BK444.out 0).trans rfl, (blk_cell BK444.out 1).trans rfl, (blk_cell BK445.out 0).trans rfl, (blk_cell BK445.out 1).trans rfl⟩ (fun hHeld => ?_)
                clear hK K
                refine norm_ (a' := ?_) ?_ ?_
                rotate_left
                ·show Act.put _ (some 20) _ = _
                 simp only [Act.put, List.setIfInBounds_toArray, List.set_cons_zero, List.set_cons_succ, i64_w, i32_w]
                 rfl
                exact norm_ (by first | (simp only [putAll, Act.put, List.setIfInBounds_toArray, List.set_cons_zero, List.set_cons_succ]; done) | (simp only [putAll, Act.put, List.setIfInBounds_toArray, List.set_cons_zero, List.set_cons_succ]; rfl)) (hJ5_13 (gb455) _ ⟨hHeld, (bq BK444), (bq BK445), (bq BK455), GW455.out, GE455.out, NB444_455.out, NB455_444.out, NB445_455.out, NB455_445.out, (bw HB)⟩)
               ·skip
                refine box_step ?hg (N := 5) ?hd (cs := #[.bool false, .int .u64 0, .int .u64 0]) (t := 58) ?hr ?_; (case hd => rfl); (case hg => rfl); (case hr => first | (go_simp; done) | (go_simp; rfl))
                intro gb454 hg w24 hbox hb
                have n0_ := kb BK444 hb
                have n1_ := kb BK445 hb
                have n2_ := kb BK455 hb
                have n3_ := wb HB hb
                have n4_ := Aside0.mk (hbox)
                have n5_ := gs HB hg
                have n6_ := gs HB hg
                have n7_ := nl BK444 hg
                have n8_ := nr BK444 hg
                have n9_ := nl BK445 hg
                have n10_ := nr BK445 hg
                have n11_ := nl BK455 hg
                have n12_ := nr BK455 hg
                clear BK444
                clear BK445
                clear BK455
                clear HB
                have BK444 := n0_
                have BK445 := n1_
                have BK455 := n2_
                have HB := n3_
                have BK454 := n4_
                have GW454 := n5_
                have GE454 := n6_
                have NB444_454 := n7_
                have NB454_444 := n8_
                have NB445_454 := n9_
                have NB454_445 := n10_
                have NB455_454 := n11_
                have NB454_455 := n12_
                clear n0_ n1_ n2_ n3_ n4_ n5_ n6_ n7_ n8_ n9_ n10_ n11_ n12_
                clear hb hbox hg
                refine hK.out _ _ ⟨(blk_cell BK444.out 0).trans rfl, (blk_cell BK444.out 1).trans rfl, (blk_cell BK445.out 0).trans rfl, (blk_cell BK445.out 1).trans rfl⟩ (fun hHeld => ?_)
                clear hK K
                refine norm_ (a' := ?_) ?_ ?_
                rotate_left
                ·show Act.put _ (some 5) _ = _
                 simp only [Act.put, List.setIfInBounds_toArray, List.set_cons_zero, List.set_cons_succ, i64_w, i32_w]
                 rfl
                exact norm_ (by first | (simp only [putAll, Act.put, List.setIfInBounds_toArray, List.set_cons_zero, List.set_cons_succ]; done) | (simp only [putAll, Act.put, List.setIfInBounds_toArray, List.set_cons_zero, List.set_cons_succ]; rfl)) (hJ12_13 (gb454, gb455) _ ⟨hHeld, (bq BK444), (bq BK445), (bq BK454), (bq BK455), GW454.out, GE454.out, NB444_454.out, NB454_444.out, NB445_454.out, NB454_445.out, NB455_454.out, NB454_455.out, GW455.out, GE455.out, NB444_455.out, NB455_444.out, NB445_455.out, NB455_445.out, (bw HB)⟩)
             ·skip
              rintro gb454 w23 ⟨hS_, h0_, h1_, h2_, h3_, h4_, h5_, h6_, h7_, h8_, h9_⟩
              have n0_ : Aside0 (w23.heap[gb444]? = some (.cells #[.int .i64 a0_0, .int .i64 a0_1] 35 (0, 0))) := ⟨h0_⟩
              have n1_ : Aside0 (w23.heap[gb445]? = some (.cells #[.int .i64 a1_0, .int .i64 a1_1] 35 (0, 0))) := ⟨h1_⟩
              have n2_ : Aside0 (w23.heap[gb454]? = some (.cells #[.bool false, .int .u64 0, .int .u64 0] 58 (0, 0))) := ⟨h2_⟩
              have n3_ : Aside0 (w.heap.size ≤ gb454) := ⟨h3_⟩
              have n4_ : Aside0 (w.heap.size ≤ gb454) := ⟨h4_⟩
              have n5_ : Aside0 (gb444 ≠ gb454) := ⟨h5_⟩
              have n6_ : Aside0 (gb454 ≠ gb444) := ⟨h6_⟩
              have n7_ : Aside0 (gb445 ≠ gb454) := ⟨h7_⟩
              have n8_ : Aside0 (gb454 ≠ gb445) := ⟨h8_⟩
              have n9_ : Aside0 (Below w.heap.size w w23) := ⟨h9_⟩
              clear BK444
              clear BK445
              clear HB
              clear h0_ h1_ h2_ h3_ h4_ h5_ h6_ h7_ h8_ h9_
              have BK444 := n0_
              have BK445 := n1_
              have BK454 := n2_
              have GW454 := n3_
              have GE454 := n4_
              have NB444_454 := n5_
              have NB454_444 := n6_
              have NB445_454 := n7_
              have NB454_445 := n8_
              have HB := n9_
              clear n0_ n1_ n2_ n3_ n4_ n5_ n6_ n7_ n8_ n9_
              have hHeld : w23.cell? ⟨gb444, 0, none⟩ = some (.int .i64 a0_0) ∧ w23.cell? ⟨gb444, 1, none⟩ = some (.int .i64 a0_1) ∧ w23.cell? ⟨gb445, 0, none⟩ = some (.int .i64 a1_0) ∧ w23.cell? ⟨gb445, 1, none⟩ = some (.int .i64 a1_1) := hS_
              refine norm_ (a' := ?_) ?_ ?_
              rotate_left
              ·simp only [putAll, Act.put, List.setIfInBounds_toArray, List.set_cons_zero, List.set_cons_succ]
               rfl
              refine two_ (i := 5) (j := 13) (Ni := some 20) (Nj := some 6) #[true, true, true, true, true, true, true, true, true, true, true, false, true, false, false, false] #[true, true, true, true, true, false, true, true, true, true, true, false, true, true, false, false] rfl rfl rfl rfl (two_of HT_.out (by kernel_rfl)) (by decide) (by decide) (fun K hK => ?_) (fun K hK => ?_)
              ·skip
               refine goes_ Try.func56 (by kernel_rfl) rfl #[.int .i64 a0_0, .int .u64 (IntKind.u64.wrap (a1_1))] (by rfl) rfl rfl (by (try simp only [List.map_toArray, List.map_cons, List.map_nil]); first | done | rfl | (simp only [List.length_drop, List.length_take]; rfl)) ?_
               with_reducible refine (ratio_times.calls a0_0 (IntKind.u64.wrap (a1_1)) t448 t449 t450 _ A18.out).mono ?_
               rintro e w24 ⟨rfl, hb⟩
               refine ⟨_, rfl, ?_⟩
               have n0_ := kb BK444 hb
               have n1_ := kb BK445 hb
               have n2_ := kb BK454 hb
               have n3_ := wb HB hb
               clear BK444
               clear BK445
               clear BK454
               clear HB
               have BK444 := n0_
               have BK445 := n1_
               have BK454 := n2_
               have HB := n3_
               clear n0_ n1_ n2_ n3_
               (try clear hb)
               (try clear hb2)
               (try clear hk)
               (try clear hi)
               refine hK.out _ _ ⟨(blk_cell BK444.out 0).trans rfl, (blk_cell BK444.out 1).trans rfl, (blk_cell BK445.out 0).trans rfl, (blk_cell BK445.out 1).trans rfl⟩ (fun hHeld => ?_)
               clear hK K
               refine norm_ (a' := ?_) ?_ ?_
               rotate_left
               ·show Act.put _ (some 20) _ = _
                simp only [Act.put, List.setIfInBounds_toArray, List.set_cons_zero, List.set_cons_succ, i64_w, i32_w]
                rfl
               exact norm_ (by first | (simp only [putAll, Act.put, List.setIfInBounds_toArray, List.set_cons_zero, List.set_cons_succ]; done) | (simp only [putAll, Act.put, List.setIfInBounds_toArray, List.set_cons_zero, List.set_cons_succ]; rfl)) (hJ5_12 (gb454) _ ⟨hHeld, (bq BK444), (bq BK445), (bq BK454), GW454.out, GE454.out, NB444_454.out, NB454_444.out, NB445_454.out, NB454_445.out, (bw HB)⟩)
              ·skip
               refine box_step ?hg (N := 6) ?hd (cs := #[.bool false, .int .u64 0, .int .u64 0]) (t := 58) ?hr ?_; (case hd => rfl); (case hg => rfl); (case hr => first | (go_simp; done) | (go_simp; rfl))
               intro gb455 hg w24 hbox hb
               have n0_ := kb BK444 hb
               have n1_ := kb BK445 hb
               have n2_ := kb BK454 hb
               have n3_ := wb HB hb
               have n4_ := Aside0.mk (hbox)
               have n5_ := gs HB hg
               have n6_ := gs HB hg
               have n7_ := nl BK444 hg
               have n8_ := nr BK444 hg
               have n9_ := nl BK445 hg
               have n10_ := nr BK445 hg
               have n11_ := nl BK454 hg
               have n12_ := nr BK454 hg
               clear BK444
               clear BK445
               clear BK454
               clear HB
               have BK444 := n0_
               have BK445 := n1_
               have BK454 := n2_
               have HB := n3_
               have BK455 := n4_
               have GW455 := n5_
               have GE455 := n6_
               have NB444_455 := n7_
               have NB455_444 := n8_
               have NB445_455 := n9_
               have NB455_445 := n10_
               have NB454_455 := n11_
               have NB455_454 := n12_
               clear n0_ n1_ n2_ n3_ n4_ n5_ n6_ n7_ n8_ n9_ n10_ n11_ n12_
               clear hb hbox hg
               refine hK.out _ _ ⟨(blk_cell BK444.out 0).trans rfl, (blk_cell BK444.out 1).trans rfl, (blk_cell BK445.out 0).trans rfl, (blk_cell BK445.out 1).trans rfl⟩ (fun hHeld => ?_)
               clear hK K
               refine norm_ (a' := ?_) ?_ ?_
               rotate_left
               ·show Act.put _ (some 6) _ = _
                simp only [Act.put, List.setIfInBounds_toArray, List.set_cons_zero, List.set_cons_succ, i64_w, i32_w]
                rfl
               exact norm_ (by first | (simp only [putAll, Act.put, List.setIfInBounds_toArray, List.set_cons_zero, List.set_cons_succ]; done) | (simp only [putAll, Act.put, List.setIfInBounds_toArray, List.set_cons_zero, List.set_cons_succ]; rfl)) (hJ12_13 (gb454, gb455) _ ⟨hHeld, (bq BK444), (bq BK445), (bq BK454), (bq BK455), GW454.out, GE454.out, NB444_454.out, NB454_444.out, NB445_454.out, NB454_445.out, NB455_454.out, NB454_455.out, GW455.out, GE455.out, NB444_455.out, NB455_444.out, NB445_455.out, NB455_445.out, (bw HB)⟩)
            ·skip
             rintro _ w23 ⟨hS_, h0_, h1_, h2_⟩
             have n0_ : Aside0 (w23.heap[gb444]? = some (.cells #[.int .i64 a0_0, .int .i64 a0_1] 35 (0, 0))) := ⟨h0_⟩
             have n1_ : Aside0 (w23.heap[gb445]? = some (.cells #[.int .i64 a1_0, .int .i64 a1_1] 35 (0, 0))) := ⟨h1_⟩
             have n2_ : Aside0 (Below w.heap.size w w23) := ⟨h2_⟩
             clear BK444
             clear BK445
             clear HB
             clear h0_ h1_ h2_
             have BK444 := n0_
             have BK445 := n1_
             have HB := n2_
             clear n0_ n1_ n2_
             have hHeld : w23.cell? ⟨gb444, 0, none⟩ = some (.int .i64 a0_0) ∧ w23.cell? ⟨gb444, 1, none⟩ = some (.int .i64 a0_1) ∧ w23.cell? ⟨gb445, 0, none⟩ = some (.int .i64 a1_0) ∧ w23.cell? ⟨gb445, 1, none⟩ = some (.int .i64 a1_1) := hS_
             refine norm_ (a' := ?_) ?_ ?_
             rotate_left
             ·simp only [putAll, Act.put, List.setIfInBounds_toArray, List.set_cons_zero, List.set_cons_succ]
              rfl
             refine three_ (i := 11) (j := 12) (k := 13) (Ni := some 26) (Nj := some 5) (Nk := some 6) #[true, true, true, true, true, true, true, true, true, true, true, true, false, false, false, false] #[true, true, true, true, true, true, true, true, true, true, true, false, true, false, false, false] #[true, true, true, true, true, true, true, true, true, true, true, false, false, true, false, false] rfl rfl rfl rfl rfl rfl (three_of HT_.out (by kernel_rfl)) (by decide) (by decide) (by decide) (fun K hK => ?_) (fun K hK => ?_) (fun K hK => ?_)
             ·skip
              refine goes_ Try.func56 (by kernel_rfl) rfl #[.int .i64 a1_0, .int .u64 (IntKind.u64.wrap (a0_1))] (by rfl) rfl rfl (by (try simp only [List.map_toArray, List.map_cons, List.map_nil]); first | done | rfl | (simp only [List.length_drop, List.length_take]; rfl)) ?_
              with_reducible refine (ratio_times.calls a1_0 (IntKind.u64.wrap (a0_1)) t451 t452 t453 _ A19.out).mono ?_
              rintro e w24 ⟨rfl, hb⟩
              refine ⟨_, rfl, ?_⟩
              have n0_ := kb BK444 hb
              have n1_ := kb BK445 hb
              have n2_ := wb HB hb
              clear BK444
              clear BK445
              clear HB
              have BK444 := n0_
              have BK445 := n1_
              have HB := n2_
              clear n0_ n1_ n2_
              (try clear hb)
              (try clear hb2)
              (try clear hk)
              (try clear hi)
              refine hK.out _ _ ⟨(blk_cell BK444.out 0).trans rfl, (blk_cell BK444.out 1).trans rfl, (blk_cell BK445.out 0).trans rfl, (blk_cell BK445.out 1).trans rfl⟩ (fun hHeld => ?_)
              clear hK K
              refine norm_ (a' := ?_) ?_ ?_
              rotate_left
              ·show Act.put _ (some 26) _ = _
               simp only [Act.put, List.setIfInBounds_toArray, List.set_cons_zero, List.set_cons_succ, i64_w, i32_w]
               rfl
              exact norm_ (by first | (simp only [putAll, Act.put, List.setIfInBounds_toArray, List.set_cons_zero, List.set_cons_succ]; done) | (simp only [putAll, Act.put, List.setIfInBounds_toArray, List.set_cons_zero, List.set_cons_succ]; rfl)) (hJ5_11 () _ ⟨hHeld, (bq BK444), (bq BK445), (bw HB)⟩)
             ·skip
              refine box_step ?hg (N := 5) ?hd (cs := #[.bool false, .int .u64 0, .int .u64 0]) (t := 58) ?hr ?_; (case hd => rfl); (case hg => rfl); (case hr => first | (go_simp; done) | (go_simp; rfl))
              intro gb454 hg w24 hbox hb
              have n0_ := kb BK444 hb
              have n1_ := kb BK445 hb
              have n2_ := wb HB hb
              have n3_ := Aside0.mk (hbox)
              have n4_ := gs HB hg
              have n5_ := gs HB hg
              have n6_ := nl BK444 hg
              have n7_ := nr BK444 hg
              have n8_ := nl BK445 hg
              have n9_ := nr BK445 hg
              clear BK444
              clear BK445
              clear HB
              have BK444 := n0_
              have BK445 := n1_
              have HB := n2_
              have BK454 := n3_
              have GW454 := n4_
              have GE454 := n5_
              have NB444_454 := n6_
              have NB454_444 := n7_
              have NB445_454 := n8_
              have NB454_445 := n9_
              clear n0_ n1_ n2_ n3_ n4_ n5_ n6_ n7_ n8_ n9_
              clear hb hbox hg
              refine hK.out _ _ ⟨(blk_cell BK444.out 0).trans rfl, (blk_cell BK444.out 1).trans rfl, (blk_cell BK445.out 0).trans rfl, (blk_cell BK445.out 1).trans rfl⟩ (fun hHeld => ?_)
              clear hK K
              refine norm_ (a' := ?_) ?_ ?_
              rotate_left
              ·show Act.put _ (some 5) _ = _
               simp only [Act.put, List.setIfInBounds_toArray, List.set_cons_zero, List.set_cons_succ, i64_w, i32_w]
               rfl
              exact norm_ (by first | (simp only [putAll, Act.put, List.setIfInBounds_toArray, List.set_cons_zero, List.set_cons_succ]; done) | (simp only [putAll, Act.put, List.setIfInBounds_toArray, List.set_cons_zero, List.set_cons_succ]; rfl)) (hJ5_12 (gb454) _ ⟨hHeld, (bq BK444), (bq BK445), (bq BK454), GW454.out, GE454.out, NB444_454.out, NB454_444.out, NB445_454.out, NB454_445.out, (bw HB)⟩)
             ·skip
              refine box_step ?hg (N := 6) ?hd (cs := #[.bool false, .int .u64 0, .int .u64 0]) (t := 58) ?hr ?_; (case hd => rfl); (case hg => rfl); (case hr => first | (go_simp; done) | (go_simp; rfl))
              intro gb455 hg w24 hbox hb
              have n0_ := kb BK444 hb
              have n1_ := kb BK445 hb
              have n2_ := wb HB hb
              have n3_ := Aside0.mk (hbox)
              have n4_ := gs HB hg
              have n5_ := gs HB hg
              have n6_ := nl BK444 hg
              have n7_ := nr BK444 hg
              have n8_ := nl BK445 hg
              have n9_ := nr BK445 hg
              clear BK444
              clear BK445
              clear HB
              have BK444 := n0_
              have BK445 := n1_
              have HB := n2_
              have BK455 := n3_
              have GW455 := n4_
              have GE455 := n5_
              have NB444_455 := n6_
              have NB455_444 := n7_
              have NB445_455 := n8_
              have NB455_445 := n9_
              clear n0_ n1_ n2_ n3_ n4_ n5_ n6_ n7_ n8_ n9_
              clear hb hbox hg
              refine hK.out _ _ ⟨(blk_cell BK444.out 0).trans rfl, (blk_cell BK444.out 1).trans rfl, (blk_cell BK445.out 0).trans rfl, (blk_cell BK445.out 1).trans rfl⟩ (fun hHeld => ?_)
              clear hK K
              refine norm_ (a' := ?_) ?_ ?_
              rotate_left
              ·show Act.put _ (some 6) _ = _
               simp only [Act.put, List.setIfInBounds_toArray, List.set_cons_zero, List.set_cons_succ, i64_w, i32_w]
               rfl
              exact norm_ (by first | (simp only [putAll, Act.put, List.setIfInBounds_toArray, List.set_cons_zero, List.set_cons_succ]; done) | (simp only [putAll, Act.put, List.setIfInBounds_toArray, List.set_cons_zero, List.set_cons_succ]; rfl)) (hJ5_13 (gb455) _ ⟨hHeld, (bq BK444), (bq BK445), (bq BK455), GW455.out, GE455.out, NB444_455.out, NB455_444.out, NB445_455.out, NB455_445.out, (bw HB)⟩)
           ·skip
            rintro ⟨gb454, gb455⟩ w24 ⟨hS_, h0_, h1_, h2_, h3_, h4_, h5_, h6_, h7_, h8_, h9_, h10_, h11_, h12_, h13_, h14_, h15_, h16_, h17_, h18_⟩
            have n0_ : Aside0 (w24.heap[gb444]? = some (.cells #[.int .i64 a0_0, .int .i64 a0_1] 35 (0, 0))) := ⟨h0_⟩
            have n1_ : Aside0 (w24.heap[gb445]? = some (.cells #[.int .i64 a1_0, .int .i64 a1_1] 35 (0, 0))) := ⟨h1_⟩
            have n2_ : Aside0 (w24.heap[gb454]? = some (.cells #[.bool false, .int .u64 0, .int .u64 0] 58 (0, 0))) := ⟨h2_⟩
            have n3_ : Aside0 (w24.heap[gb455]? = some (.cells #[.bool false, .int .u64 0, .int .u64 0] 58 (0, 0))) := ⟨h3_⟩
            have n4_ : Aside0 (w.heap.size ≤ gb454) := ⟨h4_⟩
            have n5_ : Aside0 (w.heap.size ≤ gb454) := ⟨h5_⟩
            have n6_ : Aside0 (gb444 ≠ gb454) := ⟨h6_⟩
            have n7_ : Aside0 (gb454 ≠ gb444) := ⟨h7_⟩
            have n8_ : Aside0 (gb445 ≠ gb454) := ⟨h8_⟩
            have n9_ : Aside0 (gb454 ≠ gb445) := ⟨h9_⟩
            have n10_ : Aside0 (gb455 ≠ gb454) := ⟨h10_⟩
            have n11_ : Aside0 (gb454 ≠ gb455) := ⟨h11_⟩
            have n12_ : Aside0 (w.heap.size ≤ gb455) := ⟨h12_⟩
            have n13_ : Aside0 (w.heap.size ≤ gb455) := ⟨h13_⟩
            have n14_ : Aside0 (gb444 ≠ gb455) := ⟨h14_⟩
            have n15_ : Aside0 (gb455 ≠ gb444) := ⟨h15_⟩
            have n16_ : Aside0 (gb445 ≠ gb455) := ⟨h16_⟩
            have n17_ : Aside0 (gb455 ≠ gb445) := ⟨h17_⟩
            have n18_ : Aside0 (Below w.heap.size w w24) := ⟨h18_⟩
            clear BK444
            clear BK445
            clear HB
            clear h0_ h1_ h2_ h3_ h4_ h5_ h6_ h7_ h8_ h9_ h10_ h11_ h12_ h13_ h14_ h15_ h16_ h17_ h18_
            have BK444 := n0_
            have BK445 := n1_
            have BK454 := n2_
            have BK455 := n3_
            have GW454 := n4_
            have GE454 := n5_
            have NB444_454 := n6_
            have NB454_444 := n7_
            have NB445_454 := n8_
            have NB454_445 := n9_
            have NB455_454 := n10_
            have NB454_455 := n11_
            have GW455 := n12_
            have GE455 := n13_
            have NB444_455 := n14_
            have NB455_444 := n15_
            have NB445_455 := n16_
            have NB455_445 := n17_
            have HB := n18_
            clear n0_ n1_ n2_ n3_ n4_ n5_ n6_ n7_ n8_ n9_ n10_ n11_ n12_ n13_ n14_ n15_ n16_ n17_ n18_
            have hHeld : w24.cell? ⟨gb444, 0, none⟩ = some (.int .i64 a0_0) ∧ w24.cell? ⟨gb444, 1, none⟩ = some (.int .i64 a0_1) ∧ w24.cell? ⟨gb445, 0, none⟩ = some (.int .i64 a1_0) ∧ w24.cell? ⟨gb445, 1, none⟩ = some (.int .i64 a1_1) := hS_
            refine norm_ (a' := ?_) ?_ ?_
            rotate_left
            ·simp only [putAll, Act.put, List.setIfInBounds_toArray, List.set_cons_zero, List.set_cons_succ]
             rfl
            refine one_ (i := 5) (N := some 20) #[true, true, true, true, true, true, true, true, true, true, true, false, true, true, false, false] rfl rfl (one_of HT_.out (by kernel_rfl)) (by decide) (fun K hK => ?_)
            refine goes_ Try.func56 (by kernel_rfl) rfl #[.int .i64 a0_0, .int .u64 (IntKind.u64.wrap (a1_1))] (by rfl) rfl rfl (by (try simp only [List.map_toArray, List.map_cons, List.map_nil]); first | done | rfl | (simp only [List.length_drop, List.length_take]; rfl)) ?_
            with_reducible refine (ratio_times.calls a0_0 (IntKind.u64.wrap (a1_1)) t448 t449 t450 _ A18.out).mono ?_
            rintro e w25 ⟨rfl, hb⟩
            refine ⟨_, rfl, ?_⟩
            have n0_ := kb BK444 hb
            have n1_ := kb BK445 hb
            have n2_ := kb BK454 hb
            have n3_ := kb BK455 hb
            have n4_ := wb HB hb
            clear BK444
            clear BK445
            clear BK454
            clear BK455
            clear HB
            have BK444 := n0_
            have BK445 := n1_
            have BK454 := n2_
            have BK455 := n3_
            have HB := n4_
            clear n0_ n1_ n2_ n3_ n4_
            (try clear hb)
            (try clear hb2)
            (try clear hk)
            (try clear hi)
            refine hK.out _ _ ⟨(blk_cell BK444.out 0).trans rfl, (blk_cell BK444.out 1).trans rfl, (blk_cell BK445.out 0).trans rfl, (blk_cell BK445.out 1).trans rfl⟩ (fun hHeld => ?_)
            clear hK K
            refine norm_ (a' := ?_) ?_ ?_
            rotate_left
            ·show Act.put _ (some 20) _ = _
             simp only [Act.put, List.setIfInBounds_toArray, List.set_cons_zero, List.set_cons_succ, i64_w, i32_w]
             rfl
            exact norm_ (by first | (simp only [putAll, Act.put, List.setIfInBounds_toArray, List.set_cons_zero, List.set_cons_succ]; done) | (simp only [putAll, Act.put, List.setIfInBounds_toArray, List.set_cons_zero, List.set_cons_succ]; rfl)) (hJ5_12_13 (gb454, gb455) _ ⟨hHeld, (bq BK444), (bq BK445), (bq BK454), (bq BK455), GW454.out, GE454.out, NB444_454.out, NB454_444.out, NB445_454.out, NB454_445.out, NB455_454.out, NB454_455.out, GW455.out, GE455.out, NB444_455.out, NB455_444.out, NB445_455.out, NB455_445.out, (bw HB)⟩)
          ·skip
           rintro gb455 w24 ⟨hS_, h0_, h1_, h2_, h3_, h4_, h5_, h6_, h7_, h8_, h9_⟩
           have n0_ : Aside0 (w24.heap[gb444]? = some (.cells #[.int .i64 a0_0, .int .i64 a0_1] 35 (0, 0))) := ⟨h0_⟩
           have n1_ : Aside0 (w24.heap[gb445]? = some (.cells #[.int .i64 a1_0, .int .i64 a1_1] 35 (0, 0))) := ⟨h1_⟩
           have n2_ : Aside0 (w24.heap[gb455]? = some (.cells #[.bool false, .int .u64 0, .int .u64 0] 58 (0, 0))) := ⟨h2_⟩
           have n3_ : Aside0 (w.heap.size ≤ gb455) := ⟨h3_⟩
           have n4_ : Aside0 (w.heap.size ≤ gb455) := ⟨h4_⟩
           have n5_ : Aside0 (gb444 ≠ gb455) := ⟨h5_⟩
           have n6_ : Aside0 (gb455 ≠ gb444) := ⟨h6_⟩
           have n7_ : Aside0 (gb445 ≠ gb455) := ⟨h7_⟩
           have n8_ : Aside0 (gb455 ≠ gb445) := ⟨h8_⟩
           have n9_ : Aside0 (Below w.heap.size w w24) := ⟨h9_⟩
           clear BK444
           clear BK445
           clear HB
           clear h0_ h1_ h2_ h3_ h4_ h5_ h6_ h7_ h8_ h9_
           have BK444 := n0_
           have BK445 := n1_
           have BK455 := n2_
           have GW455 := n3_
           have GE455 := n4_
           have NB444_455 := n5_
           have NB455_444 := n6_
           have NB445_455 := n7_
           have NB455_445 := n8_
           have HB := n9_
           clear n0_ n1_ n2_ n3_ n4_ n5_ n6_ n7_ n8_ n9_
           have hHeld : w24.cell? ⟨gb444, 0, none⟩ = some (.int .i64 a0_0) ∧ w24.cell? ⟨gb444, 1, none⟩ = some (.int .i64 a0_1) ∧ w24.cell? ⟨gb445, 0, none⟩ = some (.int .i64 a1_0) ∧ w24.cell? ⟨gb445, 1, none⟩ = some (.int .i64 a1_1) := hS_
           refine norm_ (a' := ?_) ?_ ?_
           rotate_left
           ·simp only [putAll, Act.put, List.setIfInBounds_toArray, List.set_cons_zero, List.set_cons_succ]
            rfl
           refine two_ (i := 11) (j := 12) (Ni := some 26) (Nj := some 5) #[true, true, true, true, true, true, true, true, true, true, true, true, false, true, false, false] #[true, true, true, true, true, true, true, true, true, true, true, false, true, true, false, false] rfl rfl rfl rfl (two_of HT_.out (by kernel_rfl)) (by decide) (by decide) (fun K hK => ?_) (fun K hK => ?_)
           ·skip
            refine goes_ Try.func56 (by kernel_rfl) rfl #[.int .i64 a1_0, .int .u64 (IntKind.u64.wrap (a0_1))] (by rfl) rfl rfl (by (try simp only [List.map_toArray, List.map_cons, List.map_nil]); first | done | rfl | (simp only [List.length_drop, List.length_take]; rfl)) ?_
            with_reducible refine (ratio_times.calls a1_0 (IntKind.u64.wrap (a0_1)) t451 t452 t453 _ A19.out).mono ?_
            rintro e w25 ⟨rfl, hb⟩
            refine ⟨_, rfl, ?_⟩
            have n0_ := kb BK444 hb
            have n1_ := kb BK445 hb
            have n2_ := kb BK455 hb
            have n3_ := wb HB hb
            clear BK444
            clear BK445
            clear BK455
            clear HB
            have BK444 := n0_
            have BK445 := n1_
            have BK455 := n2_
            have HB := n3_
            clear n0_ n1_ n2_ n3_
            (try clear hb)
            (try clear hb2)
            (try clear hk)
            (try clear hi)
            refine hK.out _ _ ⟨(blk_cell BK444.out 0).trans rfl, (blk_cell BK444.out 1).trans rfl, (blk_cell BK445.out 0).trans rfl, (blk_cell BK445.out 1).trans rfl⟩ (fun hHeld => ?_)
            clear hK K
            refine norm_ (a' := ?_) ?_ ?_
            rotate_left
            ·show Act.put _ (some 26) _ = _
             simp only [Act.put, List.setIfInBounds_toArray, List.set_cons_zero, List.set_cons_succ, i64_w, i32_w]
             rfl
            exact norm_ (by first | (simp only [putAll, Act.put, List.setIfInBounds_toArray, List.set_cons_zero, List.set_cons_succ]; done) | (simp only [putAll, Act.put, List.setIfInBounds_toArray, List.set_cons_zero, List.set_cons_succ]; rfl)) (hJ5_11_13 (gb455) _ ⟨hHeld, (bq BK444), (bq BK445), (bq BK455), GW455.out, GE455.out, NB444_455.out, NB455_444.out, NB445_455.out, NB455_445.out, (bw HB)⟩)
           ·skip
            refine box_step ?hg (N := 5) ?hd (cs := #[.bool false, .int .u64 0, .int .u64 0]) (t := 58) ?hr ?_; (case hd => rfl); (case hg => rfl); (case hr => first | (go_simp; done) | (go_simp; rfl))
            intro gb454 hg w25 hbox hb
            have n0_ := kb BK444 hb
            have n1_ := kb BK445 hb
            have n2_ := kb BK455 hb
            have n3_ := wb HB hb
            have n4_ := Aside0.mk (hbox)
            have n5_ := gs HB hg
            have n6_ := gs HB hg
            have n7_ := nl BK444 hg
            have n8_ := nr BK444 hg
            have n9_ := nl BK445 hg
            have n10_ := nr BK445 hg
            have n11_ := nl BK455 hg
            have n12_ := nr BK455 hg
            clear BK444
            clear BK445
            clear BK455
            clear HB
            have BK444 := n0_
            have BK445 := n1_
            have BK455 := n2_
            have HB := n3_
            have BK454 := n4_
            have GW454 := n5_
            have GE454 := n6_
            have NB444_454 := n7_
            have NB454_444 := n8_
            have NB445_454 := n9_
            have NB454_445 := n10_
            have NB455_454 := n11_
            have NB454_455 := n12_
            clear n0_ n1_ n2_ n3_ n4_ n5_ n6_ n7_ n8_ n9_ n10_ n11_ n12_
            clear hb hbox hg
            refine hK.out _ _ ⟨(blk_cell BK444.out 0).trans rfl, (blk_cell BK444.out 1).trans rfl, (blk_cell BK445.out 0).trans rfl, (blk_cell BK445.out 1).trans rfl⟩ (fun hHeld => ?_)
            clear hK K
            refine norm_ (a' := ?_) ?_ ?_
            rotate_left
            ·show Act.put _ (some 5) _ = _
             simp only [Act.put, List.setIfInBounds_toArray, List.set_cons_zero, List.set_cons_succ, i64_w, i32_w]
             rfl
            exact norm_ (by first | (simp only [putAll, Act.put, List.setIfInBounds_toArray, List.set_cons_zero, List.set_cons_succ]; done) | (simp only [putAll, Act.put, List.setIfInBounds_toArray, List.set_cons_zero, List.set_cons_succ]; rfl)) (hJ5_12_13 (gb454, gb455) _ ⟨hHeld, (bq BK444), (bq BK445), (bq BK454), (bq BK455), GW454.out, GE454.out, NB444_454.out, NB454_444.out, NB445_454.out, NB454_445.out, NB455_454.out, NB454_455.out, GW455.out, GE455.out, NB444_455.out, NB455_444.out, NB445_455.out, NB455_445.out, (bw HB)⟩)
         ·skip
          rintro gb454 w24 ⟨hS_, h0_, h1_, h2_, h3_, h4_, h5_, h6_, h7_, h8_, h9_⟩
          have n0_ : Aside0 (w24.heap[gb444]? = some (.cells #[.int .i64 a0_0, .int .i64 a0_1] 35 (0, 0))) := ⟨h0_⟩
          have n1_ : Aside0 (w24.heap[gb445]? = some (.cells #[.int .i64 a1_0, .int .i64 a1_1] 35 (0, 0))) := ⟨h1_⟩
          have n2_ : Aside0 (w24.heap[gb454]? = some (.cells #[.bool false, .int .u64 0, .int .u64 0] 58 (0, 0))) := ⟨h2_⟩
          have n3_ : Aside0 (w.heap.size ≤ gb454) := ⟨h3_⟩
          have n4_ : Aside0 (w.heap.size ≤ gb454) := ⟨h4_⟩
          have n5_ : Aside0 (gb444 ≠ gb454) := ⟨h5_⟩
          have n6_ : Aside0 (gb454 ≠ gb444) := ⟨h6_⟩
          have n7_ : Aside0 (gb445 ≠ gb454) := ⟨h7_⟩
          have n8_ : Aside0 (gb454 ≠ gb445) := ⟨h8_⟩
          have n9_ : Aside0 (Below w.heap.size w w24) := ⟨h9_⟩
          clear BK444
          clear BK445
          clear HB
          clear h0_ h1_ h2_ h3_ h4_ h5_ h6_ h7_ h8_ h9_
          have BK444 := n0_
          have BK445 := n1_
          have BK454 := n2_
          have GW454 := n3_
          have GE454 := n4_
          have NB444_454 := n5_
          have NB454_444 := n6_
          have NB445_454 := n7_
          have NB454_445 := n8_
          have HB := n9_
          clear n0_ n1_ n2_ n3_ n4_ n5_ n6_ n7_ n8_ n9_
          have hHeld : w24.cell? ⟨gb444, 0, none⟩ = some (.int .i64 a0_0) ∧ w24.cell? ⟨gb444, 1, none⟩ = some (.int .i64 a0_1) ∧ w24.cell? ⟨gb445, 0, none⟩ = some (.int .i64 a1_0) ∧ w24.cell? ⟨gb445, 1, none⟩ = some (.int .i64 a1_1) := hS_
          refine norm_ (a' := ?_) ?_ ?_
          rotate_left
          ·simp only [putAll, Act.put, List.setIfInBounds_toArray, List.set_cons_zero, List.set_cons_succ]
           rfl
          refine two_ (i := 11) (j := 13) (Ni := some 26) (Nj := some 6) #[true, true, true, true, true, true, true, true, true, true, true, true, true, false, false, false] #[true, true, true, true, true, true, true, true, true, true, true, false, true, true, false, false] rfl rfl rfl rfl (two_of HT_.out (by kernel_rfl)) (by decide) (by decide) (fun K hK => ?_) (fun K hK => ?_)
          ·skip
           refine goes_ Try.func56 (by kernel_rfl) rfl #[.int .i64 a1_0, .int .u64 (IntKind.u64.wrap (a0_1))] (by rfl) rfl rfl (by (try simp only [List.map_toArray, List.map_cons, List.map_nil]); first | done | rfl | (simp only [List.length_drop, List.length_take]; rfl)) ?_
           with_reducible refine (ratio_times.calls a1_0 (IntKind.u64.wrap (a0_1)) t451 t452 t453 _ A19.out).mono ?_
           rintro e w25 ⟨rfl, hb⟩
           refine ⟨_, rfl, ?_⟩
           have n0_ := kb BK444 hb
           have n1_ := kb BK445 hb
           have n2_ := kb BK454 hb
           have n3_ := wb HB hb
           clear BK444
           clear BK445
           clear BK454
           clear HB
           have BK444 := n0_
           have BK445 := n1_
           have BK454 := n2_
           have HB := n3_
           clear n0_ n1_ n2_ n3_
           (try clear hb)
           (try clear hb2)
           (try clear hk)
           (try clear hi)
           refine hK.out _ _ ⟨(blk_cell BK444.out 0).trans rfl, (blk_cell BK444.out 1).trans rfl, (blk_cell BK445.out 0).trans rfl, (blk_cell BK445.out 1).trans rfl⟩ (fun hHeld => ?_)
           clear hK K
           refine norm_ (a' := ?_) ?_ ?_
           rotate_left
           ·show Act.put _ (some 26) _ = _
            simp only [Act.put, List.setIfInBounds_toArray, List.set_cons_zero, List.set_cons_succ, i64_w, i32_w]
            rfl
           exact norm_ (by first | (simp only [putAll, Act.put, List.setIfInBounds_toArray, List.set_cons_zero, List.set_cons_succ]; done) | (simp only [putAll, Act.put, List.setIfInBounds_toArray, List.set_cons_zero, List.set_cons_succ]; rfl)) (hJ5_11_12 (gb454) _ ⟨hHeld, (bq BK444), (bq BK445), (bq BK454), GW454.out, GE454.out, NB444_454.out, NB454_444.out, NB445_454.out, NB454_445.out, (bw HB)⟩)
          ·skip
           refine box_step ?hg (N := 6) ?hd (cs := #[.bool false, .int .u64 0, .int .u64 0]) (t := 58) ?hr ?_; (case hd => rfl); (case hg => rfl); (case hr => first | (go_simp; done) | (go_simp; rfl))
           intro gb455 hg w25 hbox hb
           have n0_ := kb BK444 hb
           have n1_ := kb BK445 hb
           have n2_ := kb BK454 hb
           have n3_ := wb HB hb
           have n4_ := Aside0.mk (hbox)
           have n5_ := gs HB hg
           have n6_ := gs HB hg
           have n7_ := nl BK444 hg
           have n8_ := nr BK444 hg
           have n9_ := nl BK445 hg
           have n10_ := nr BK445 hg
           have n11_ := nl BK454 hg
           have n12_ := nr BK454 hg
           clear BK444
           clear BK445
           clear BK454
           clear HB
           have BK444 := n0_
           have BK445 := n1_
           have BK454 := n2_
           have HB := n3_
           have BK455 := n4_
           have GW455 := n5_
           have GE455 := n6_
           have NB444_455 := n7_
           have NB455_444 := n8_
           have NB445_455 := n9_
           have NB455_445 := n10_
           have NB454_455 := n11_
           have NB455_454 := n12_
           clear n0_ n1_ n2_ n3_ n4_ n5_ n6_ n7_ n8_ n9_ n10_ n11_ n12_
           clear hb hbox hg
           refine hK.out _ _ ⟨(blk_cell BK444.out 0).trans rfl, (blk_cell BK444.out 1).trans rfl, (blk_cell BK445.out 0).trans rfl, (blk_cell BK445.out 1).trans rfl⟩ (fun hHeld => ?_)
           clear hK K
           refine norm_ (a' := ?_) ?_ ?_
           rotate_left
           ·show Act.put _ (some 6) _ = _
            simp only [Act.put, List.setIfInBounds_toArray, List.set_cons_zero, List.set_cons_succ, i64_w, i32_w]
            rfl
           exact norm_ (by first | (simp only [putAll, Act.put, List.setIfInBounds_toArray, List.set_cons_zero, List.set_cons_succ]; done) | (simp only [putAll, Act.put, List.setIfInBounds_toArray, List.set_cons_zero, List.set_cons_succ]; rfl)) (hJ5_12_13 (gb454, gb455) _ ⟨hHeld, (bq BK444), (bq BK445), (bq BK454), (bq BK455), GW454.out, GE454.out, NB444_454.out, NB454_444.out, NB445_454.out, NB454_445.out, NB455_454.out, NB454_455.out, GW455.out, GE455.out, NB444_455.out, NB455_444.out, NB445_455.out, NB455_445.out, (bw HB)⟩)
        ·skip
         rintro _ w24 ⟨hS_, h0_, h1_, h2_⟩
         have n0_ : Aside0 (w24.heap[gb444]? = some (.cells #[.int .i64 a0_0, .int .i64 a0_1] 35 (0, 0))) := ⟨h0_⟩
         have n1_ : Aside0 (w24.heap[gb445]? = some (.cells #[.int .i64 a1_0, .int .i64 a1_1] 35 (0, 0))) := ⟨h1_⟩
         have n2_ : Aside0 (Below w.heap.size w w24) := ⟨h2_⟩
         clear BK444
         clear BK445
         clear HB
         clear h0_ h1_ h2_
         have BK444 := n0_
         have BK445 := n1_
         have HB := n2_
         clear n0_ n1_ n2_
         have hHeld : w24.cell? ⟨gb444, 0, none⟩ = some (.int .i64 a0_0) ∧ w24.cell? ⟨gb444, 1, none⟩ = some (.int .i64 a0_1) ∧ w24.cell? ⟨gb445, 0, none⟩ = some (.int .i64 a1_0) ∧ w24.cell? ⟨gb445, 1, none⟩ = some (.int .i64 a1_1) := hS_
         refine norm_ (a' := ?_) ?_ ?_
         rotate_left
         ·simp only [putAll, Act.put, List.setIfInBounds_toArray, List.set_cons_zero, List.set_cons_succ]
          rfl
         refine two_ (i := 12) (j := 13) (Ni := some 5) (Nj := some 6) #[true, true, true, true, true, true, true, true, true, true, true, true, true, false, false, false] #[true, true, true, true, true, true, true, true, true, true, true, true, false, true, false, false] rfl rfl rfl rfl (two_of HT_.out (by kernel_rfl)) (by decide) (by decide) (fun K hK => ?_) (fun K hK => ?_)
         ·skip
          refine box_step ?hg (N := 5) ?hd (cs := #[.bool false, .int .u64 0, .int .u64 0]) (t := 58) ?hr ?_; (case hd => rfl); (case hg => rfl); (case hr => first | (go_simp; done) | (go_simp; rfl))
          intro gb454 hg w25 hbox hb
          have n0_ := kb BK444 hb
          have n1_ := kb BK445 hb
          have n2_ := wb HB hb
          have n3_ := Aside0.mk (hbox)
          have n4_ := gs HB hg
          have n5_ := gs HB hg
          have n6_ := nl BK444 hg
          have n7_ := nr BK444 hg
          have n8_ := nl BK445 hg
          have n9_ := nr BK445 hg
          clear BK444
          clear BK445
          clear HB
          have BK444 := n0_
          have BK445 := n1_
          have HB := n2_
          have BK454 := n3_
          have GW454 := n4_
          have GE454 := n5_
          have NB444_454 := n6_
          have NB454_444 := n7_
          have NB445_454 := n8_
          have NB454_445 := n9_
          clear n0_ n1_ n2_ n3_ n4_ n5_ n6_ n7_ n8_ n9_
          clear hb hbox hg
          refine hK.out _ _ ⟨(blk_cell BK444.out 0).trans rfl, (blk_cell BK444.out 1).trans rfl, (blk_cell BK445.out 0).trans rfl, (blk_cell BK445.out 1).trans rfl⟩ (fun hHeld => ?_)
          clear hK K
          refine norm_ (a' := ?_) ?_ ?_
          rotate_left
          ·show Act.put _ (some 5) _ = _
           simp only [Act.put, List.setIfInBounds_toArray, List.set_cons_zero, List.set_cons_succ, i64_w, i32_w]
           rfl
          exact norm_ (by first | (simp only [putAll, Act.put, List.setIfInBounds_toArray, List.set_cons_zero, List.set_cons_succ]; done) | (simp only [putAll, Act.put, List.setIfInBounds_toArray, List.set_cons_zero, List.set_cons_succ]; rfl)) (hJ5_11_12 (gb454) _ ⟨hHeld, (bq BK444), (bq BK445), (bq BK454), GW454.out, GE454.out, NB444_454.out, NB454_444.out, NB445_454.out, NB454_445.out, (bw HB)⟩)
         ·skip
          refine box_step ?hg (N := 6) ?hd (cs := #[.bool false, .int .u64 0, .int .u64 0]) (t := 58) ?hr ?_; (case hd => rfl); (case hg => rfl); (case hr => first | (go_simp; done) | (go_simp; rfl))
          intro gb455 hg w25 hbox hb
          have n0_ := kb BK444 hb
          have n1_ := kb BK445 hb
          have n2_ := wb HB hb
          have n3_ := Aside0.mk (hbox)
          have n4_ := gs HB hg
          have n5_ := gs HB hg
          have n6_ := nl BK444 hg
          have n7_ := nr BK444 hg
          have n8_ := nl BK445 hg
          have n9_ := nr BK445 hg
          clear BK444
          clear BK445
          clear HB
          have BK444 := n0_
          have BK445 := n1_
          have HB := n2_
          have BK455 := n3_
          have GW455 := n4_
          have GE455 := n5_
          have NB444_455 := n6_
          have NB455_444 := n7_
          have NB445_455 := n8_
          have NB455_445 := n9_
          clear n0_ n1_ n2_ n3_ n4_ n5_ n6_ n7_ n8_ n9_
          clear hb hbox hg
          refine hK.out _ _ ⟨(blk_cell BK444.out 0).trans rfl, (blk_cell BK444.out 1).trans rfl, (blk_cell BK445.out 0).trans rfl, (blk_cell BK445.out 1).trans rfl⟩ (fun hHeld => ?_)
          clear hK K
          refine norm_ (a' := ?_) ?_ ?_
          rotate_left
          ·show Act.put _ (some 6) _ = _
           simp only [Act.put, List.setIfInBounds_toArray, List.set_cons_zero, List.set_cons_succ, i64_w, i32_w]
           rfl
          exact norm_ (by first | (simp only [putAll, Act.put, List.setIfInBounds_toArray, List.set_cons_zero, List.set_cons_succ]; done) | (simp only [putAll, Act.put, List.setIfInBounds_toArray, List.set_cons_zero, List.set_cons_succ]; rfl)) (hJ5_11_13 (gb455) _ ⟨hHeld, (bq BK444), (bq BK445), (bq BK455), GW455.out, GE455.out, NB444_455.out, NB455_444.out, NB445_455.out, NB455_445.out, (bw HB)⟩)
       ·skip
        rintro ⟨gb454, gb455⟩ w25 ⟨hS_, h0_, h1_, h2_, h3_, h4_, h5_, h6_, h7_, h8_, h9_, h10_, h11_, h12_, h13_, h14_, h15_, h16_, h17_, h18_⟩
        have n0_ : Aside0 (w25.heap[gb444]? = some (.cells #[.int .i64 a0_0, .int .i64 a0_1] 35 (0, 0))) := ⟨h0_⟩
        have n1_ : Aside0 (w25.heap[gb445]? = some (.cells #[.int .i64 a1_0, .int .i64 a1_1] 35 (0, 0))) := ⟨h1_⟩
        have n2_ : Aside0 (w25.heap[gb454]? = some (.cells #[.bool false, .int .u64 0, .int .u64 0] 58 (0, 0))) := ⟨h2_⟩
        have n3_ : Aside0 (w25.heap[gb455]? = some (.cells #[.bool false, .int .u64 0, .int .u64 0] 58 (0, 0))) := ⟨h3_⟩
        have n4_ : Aside0 (w.heap.size ≤ gb454) := ⟨h4_⟩
        have n5_ : Aside0 (w.heap.size ≤ gb454) := ⟨h5_⟩
        have n6_ : Aside0 (gb444 ≠ gb454) := ⟨h6_⟩
        have n7_ : Aside0 (gb454 ≠ gb444) := ⟨h7_⟩
        have n8_ : Aside0 (gb445 ≠ gb454) := ⟨h8_⟩
        have n9_ : Aside0 (gb454 ≠ gb445) := ⟨h9_⟩
        have n10_ : Aside0 (gb455 ≠ gb454) := ⟨h10_⟩
        have n11_ : Aside0 (gb454 ≠ gb455) := ⟨h11_⟩
        have n12_ : Aside0 (w.heap.size ≤ gb455) := ⟨h12_⟩
        have n13_ : Aside0 (w.heap.size ≤ gb455) := ⟨h13_⟩
        have n14_ : Aside0 (gb444 ≠ gb455) := ⟨h14_⟩
        have n15_ : Aside0 (gb455 ≠ gb444) := ⟨h15_⟩
        have n16_ : Aside0 (gb445 ≠ gb455) := ⟨h16_⟩
        have n17_ : Aside0 (gb455 ≠ gb445) := ⟨h17_⟩
        have n18_ : Aside0 (Below w.heap.size w w25) := ⟨h18_⟩
        clear BK444
        clear BK445
        clear HB
        clear h0_ h1_ h2_ h3_ h4_ h5_ h6_ h7_ h8_ h9_ h10_ h11_ h12_ h13_ h14_ h15_ h16_ h17_ h18_
        have BK444 := n0_
        have BK445 := n1_
        have BK454 := n2_
        have BK455 := n3_
        have GW454 := n4_
        have GE454 := n5_
        have NB444_454 := n6_
        have NB454_444 := n7_
        have NB445_454 := n8_
        have NB454_445 := n9_
        have NB455_454 := n10_
        have NB454_455 := n11_
        have GW455 := n12_
        have GE455 := n13_
        have NB444_455 := n14_
        have NB455_444 := n15_
        have NB445_455 := n16_
        have NB455_445 := n17_
        have HB := n18_
        clear n0_ n1_ n2_ n3_ n4_ n5_ n6_ n7_ n8_ n9_ n10_ n11_ n12_ n13_ n14_ n15_ n16_ n17_ n18_
        have hHeld : w25.cell? ⟨gb444, 0, none⟩ = some (.int .i64 a0_0) ∧ w25.cell? ⟨gb444, 1, none⟩ = some (.int .i64 a0_1) ∧ w25.cell? ⟨gb445, 0, none⟩ = some (.int .i64 a1_0) ∧ w25.cell? ⟨gb445, 1, none⟩ = some (.int .i64 a1_1) := hS_
        refine norm_ (a' := ?_) ?_ ?_
        rotate_left
        ·simp only [putAll, Act.put, List.setIfInBounds_toArray, List.set_cons_zero, List.set_cons_succ]
         rfl
        refine one_ (i := 11) (N := some 26) #[true, true, true, true, true, true, true, true, true, true, true, true, true, true, false, false] rfl rfl (one_of HT_.out (by kernel_rfl)) (by decide) (fun K hK => ?_)
        refine goes_ Try.func56 (by kernel_rfl) rfl #[.int .i64 a1_0, .int .u64 (IntKind.u64.wrap (a0_1))] (by rfl) rfl rfl (by (try simp only [List.map_toArray, List.map_cons, List.map_nil]); first | done | rfl | (simp only [List.length_drop, List.length_take]; rfl)) ?_
        with_reducible refine (ratio_times.calls a1_0 (IntKind.u64.wrap (a0_1)) t451 t452 t453 _ A19.out).mono ?_
        rintro e w26 ⟨rfl, hb⟩
        refine ⟨_, rfl, ?_⟩
        have n0_ := kb BK444 hb
        have n1_ := kb BK445 hb
        have n2_ := kb BK454 hb
        have n3_ := kb BK455 hb
        have n4_ := wb HB hb
        clear BK444
        clear BK445
        clear BK454
        clear BK455
        clear HB
        have BK444 := n0_
        have BK445 := n1_
        have BK454 := n2_
        have BK455 := n3_
        have HB := n4_
        clear n0_ n1_ n2_ n3_ n4_
        (try clear hb)
        (try clear hb2)
        (try clear hk)
        (try clear hi)
        refine hK.out _ _ ⟨(blk_cell BK444.out 0).trans rfl, (blk_cell BK444.out 1).trans rfl, (blk_cell BK445.out 0).trans rfl, (blk_cell BK445.out 1).trans rfl⟩ (fun hHeld => ?_)
        clear hK K
        refine norm_ (a' := ?_) ?_ ?_
        rotate_left
        ·show Act.put _ (some 26) _ = _
         simp only [Act.put, List.setIfInBounds_toArray, List.set_cons_zero, List.set_cons_succ, i64_w, i32_w]
         rfl
        exact norm_ (by first | (simp only [putAll, Act.put, List.setIfInBounds_toArray, List.set_cons_zero, List.set_cons_succ]; done) | (simp only [putAll, Act.put, List.setIfInBounds_toArray, List.set_cons_zero, List.set_cons_succ]; rfl)) (hJ5_11_12_13 (gb454, gb455) _ ⟨hHeld, (bq BK444), (bq BK445), (bq BK454), (bq BK455), GW454.out, GE454.out, NB444_454.out, NB454_444.out, NB445_454.out, NB454_445.out, NB455_454.out, NB454_455.out, GW455.out, GE455.out, NB444_455.out, NB455_444.out, NB445_455.out, NB455_445.out, (bw HB)⟩)
      ·skip
       rintro gb455 w25 ⟨hS_, h0_, h1_, h2_, h3_, h4_, h5_, h6_, h7_, h8_, h9_⟩
       have n0_ : Aside0 (w25.heap[gb444]? = some (.cells #[.int .i64 a0_0, .int .i64 a0_1] 35 (0, 0))) := ⟨h0_⟩
       have n1_ : Aside0 (w25.heap[gb445]? = some (.cells #[.int .i64 a1_0, .int .i64 a1_1] 35 (0, 0))) := ⟨h1_⟩
       have n2_ : Aside0 (w25.heap[gb455]? = some (.cells #[.bool false, .int .u64 0, .int .u64 0] 58 (0, 0))) := ⟨h2_⟩
       have n3_ : Aside0 (w.heap.size ≤ gb455) := ⟨h3_⟩
       have n4_ : Aside0 (w.heap.size ≤ gb455) := ⟨h4_⟩
       have n5_ : Aside0 (gb444 ≠ gb455) := ⟨h5_⟩
       have n6_ : Aside0 (gb455 ≠ gb444) := ⟨h6_⟩
       have n7_ : Aside0 (gb445 ≠ gb455) := ⟨h7_⟩
       have n8_ : Aside0 (gb455 ≠ gb445) := ⟨h8_⟩
       have n9_ : Aside0 (Below w.heap.size w w25) := ⟨h9_⟩
       clear BK444
       clear BK445
       clear HB
       clear h0_ h1_ h2_ h3_ h4_ h5_ h6_ h7_ h8_ h9_
       have BK444 := n0_
       have BK445 := n1_
       have BK455 := n2_
       have GW455 := n3_
       have GE455 := n4_
       have NB444_455 := n5_
       have NB455_444 := n6_
       have NB445_455 := n7_
       have NB455_445 := n8_
       have HB := n9_
       clear n0_ n1_ n2_ n3_ n4_ n5_ n6_ n7_ n8_ n9_
       have hHeld : w25.cell? ⟨gb444, 0, none⟩ = some (.int .i64 a0_0) ∧ w25.cell? ⟨gb444, 1, none⟩ = some (.int .i64 a0_1) ∧ w25.cell? ⟨gb445, 0, none⟩ = some (.int .i64 a1_0) ∧ w25.cell? ⟨gb445, 1, none⟩ = some (.int .i64 a1_1) := hS_
       refine norm_ (a' := ?_) ?_ ?_
       rotate_left
       ·simp only [putAll, Act.put, List.setIfInBounds_toArray, List.set_cons_zero, List.set_cons_succ]
        rfl
       refine one_ (i := 12) (N := some 5) #[true, true, true, true, true, true, true, true, true, true, true, true, true, true, false, false] rfl rfl (one_of HT_.out (by kernel_rfl)) (by decide) (fun K hK => ?_)
       refine box_step ?hg (N := 5) ?hd (cs := #[.bool false, .int .u64 0, .int .u64 0]) (t := 58) ?hr ?_; (case hd => rfl); (case hg => rfl); (case hr => first | (go_simp; done) | (go_simp; rfl))
       intro gb454 hg w26 hbox hb
       have n0_ := kb BK444 hb
       have n1_ := kb BK445 hb
       have n2_ := kb BK455 hb
       have n3_ := wb HB hb
       have n4_ := Aside0.mk (hbox)
       have n5_ := gs HB hg
       have n6_ := gs HB hg
       have n7_ := nl BK444 hg
       have n8_ := nr BK444 hg
       have n9_ := nl BK445 hg
       have n10_ := nr BK445 hg
       have n11_ := nl BK455 hg
       have n12_ := nr BK455 hg
       clear BK444
       clear BK445
       clear BK455
       clear HB
       have BK444 := n0_
       have BK445 := n1_
       have BK455 := n2_
       have HB := n3_
       have BK454 := n4_
       have GW454 := n5_
       have GE454 := n6_
       have NB444_454 := n7_
       have NB454_444 := n8_
       have NB445_454 := n9_
       have NB454_445 := n10_
       have NB455_454 := n11_
       have NB454_455 := n12_
       clear n0_ n1_ n2_ n3_ n4_ n5_ n6_ n7_ n8_ n9_ n10_ n11_ n12_
       clear hb hbox hg
       refine hK.out _ _ ⟨(blk_cell BK444.out 0).trans rfl, (blk_cell BK444.out 1).trans rfl, (blk_cell BK445.out 0).trans rfl, (blk_cell BK445.out 1).trans rfl⟩ (fun hHeld => ?_)
       clear hK K
       refine norm_ (a' := ?_) ?_ ?_
       rotate_left
       ·show Act.put _ (some 5) _ = _
        simp only [Act.put, List.setIfInBounds_toArray, List.set_cons_zero, List.set_cons_succ, i64_w, i32_w]
        rfl
       exact norm_ (by first | (simp only [putAll, Act.put, List.setIfInBounds_toArray, List.set_cons_zero, List.set_cons_succ]; done) | (simp only [putAll, Act.put, List.setIfInBounds_toArray, List.set_cons_zero, List.set_cons_succ]; rfl)) (hJ5_11_12_13 (gb454, gb455) _ ⟨hHeld, (bq BK444), (bq BK445), (bq BK454), (bq BK455), GW454.out, GE454.out, NB444_454.out, NB454_444.out, NB445_454.out, NB454_445.out, NB455_454.out, NB454_455.out, GW455.out, GE455.out, NB444_455.out, NB455_444.out, NB445_455.out, NB455_445.out, (bw HB)⟩)
     ·skip
      rintro gb454 w25 ⟨hS_, h0_, h1_, h2_, h3_, h4_, h5_, h6_, h7_, h8_, h9_⟩
      have n0_ : Aside0 (w25.heap[gb444]? = some (.cells #[.int .i64 a0_0, .int .i64 a0_1] 35 (0, 0))) := ⟨h0_⟩
      have n1_ : Aside0 (w25.heap[gb445]? = some (.cells #[.int .i64 a1_0, .int .i64 a1_1] 35 (0, 0))) := ⟨h1_⟩
      have n2_ : Aside0 (w25.heap[gb454]? = some (.cells #[.bool false, .int .u64 0, .int .u64 0] 58 (0, 0))) := ⟨h2_⟩
      have n3_ : Aside0 (w.heap.size ≤ gb454) := ⟨h3_⟩
      have n4_ : Aside0 (w.heap.size ≤ gb454) := ⟨h4_⟩
      have n5_ : Aside0 (gb444 ≠ gb454) := ⟨h5_⟩
      have n6_ : Aside0 (gb454 ≠ gb444) := ⟨h6_⟩
      have n7_ : Aside0 (gb445 ≠ gb454) := ⟨h7_⟩
      have n8_ : Aside0 (gb454 ≠ gb445) := ⟨h8_⟩
      have n9_ : Aside0 (Below w.heap.size w w25) := ⟨h9_⟩
      clear BK444
      clear BK445
      clear HB
      clear h0_ h1_ h2_ h3_ h4_ h5_ h6_ h7_ h8_ h9_
      have BK444 := n0_
      have BK445 := n1_
      have BK454 := n2_
      have GW454 := n3_
      have GE454 := n4_
      have NB444_454 := n5_
      have NB454_444 := n6_
      have NB445_454 := n7_
      have NB454_445 := n8_
      have HB := n9_
      clear n0_ n1_ n2_ n3_ n4_ n5_ n6_ n7_ n8_ n9_
      have hHeld : w25.cell? ⟨gb444, 0, none⟩ = some (.int .i64 a0_0) ∧ w25.cell? ⟨gb444, 1, none⟩ = some (.int .i64 a0_1) ∧ w25.cell? ⟨gb445, 0, none⟩ = some (.int .i64 a1_0) ∧ w25.cell? ⟨gb445, 1, none⟩ = some (.int .i64 a1_1) := hS_
      refine norm_ (a' := ?_) ?_ ?_
      rotate_left
      ·simp only [putAll, Act.put, List.setIfInBounds_toArray, List.set_cons_zero, List.set_cons_succ]
       rfl
      refine one_ (i := 13) (N := some 6) #[true, true, true, true, true, true, true, true, true, true, true, true, true, true, false, false] rfl rfl (one_of HT_.out (by kernel_rfl)) (by decide) (fun K hK => ?_)
      refine box_step ?hg (N := 6) ?hd (cs := #[.bool false, .int .u64 0, .int .u64 0]) (t := 58) ?hr ?_; (case hd => rfl); (case hg => rfl); (case hr => first | (go_simp; done) | (go_simp; rfl))
      intro gb455 hg w26 hbox hb
      have n0_ := kb BK444 hb
      have n1_ := kb BK445 hb
      have n2_ := kb BK454 hb
      have n3_ := wb HB hb
      have n4_ := Aside0.mk (hbox)
      have n5_ := gs HB hg
      have n6_ := gs HB hg
      have n7_ := nl BK444 hg
      have n8_ := nr BK444 hg
      have n9_ := nl BK445 hg
      have n10_ := nr BK445 hg
      have n11_ := nl BK454 hg
      have n12_ := nr BK454 hg
      clear BK444
      clear BK445
      clear BK454
      clear HB
      have BK444 := n0_
      have BK445 := n1_
      have BK454 := n2_
      have HB := n3_
      have BK455 := n4_
      have GW455 := n5_
      have GE455 := n6_
      have NB444_455 := n7_
      have NB455_444 := n8_
      have NB445_455 := n9_
      have NB455_445 := n10_
      have NB454_455 := n11_
      have NB455_454 := n12_
      clear n0_ n1_ n2_ n3_ n4_ n5_ n6_ n7_ n8_ n9_ n10_ n11_ n12_
      clear hb hbox hg
      refine hK.out _ _ ⟨(blk_cell BK444.out 0).trans rfl, (blk_cell BK444.out 1).trans rfl, (blk_cell BK445.out 0).trans rfl, (blk_cell BK445.out 1).trans rfl⟩ (fun hHeld => ?_)
      clear hK K
      refine norm_ (a' := ?_) ?_ ?_
      rotate_left
      ·show Act.put _ (some 6) _ = _
       simp only [Act.put, List.setIfInBounds_toArray, List.set_cons_zero, List.set_cons_succ, i64_w, i32_w]
       rfl
      exact norm_ (by first | (simp only [putAll, Act.put, List.setIfInBounds_toArray, List.set_cons_zero, List.set_cons_succ]; done) | (simp only [putAll, Act.put, List.setIfInBounds_toArray, List.set_cons_zero, List.set_cons_succ]; rfl)) (hJ5_11_12_13 (gb454, gb455) _ ⟨hHeld, (bq BK444), (bq BK445), (bq BK454), (bq BK455), GW454.out, GE454.out, NB444_454.out, NB454_444.out, NB445_454.out, NB454_445.out, NB455_454.out, NB454_455.out, GW455.out, GE455.out, NB444_455.out, NB455_444.out, NB445_455.out, NB455_445.out, (bw HB)⟩)
    rintro ⟨gb454, gb455⟩ w26 ⟨hS_, h0_, h1_, h2_, h3_, h4_, h5_, h6_, h7_, h8_, h9_, h10_, h11_, h12_, h13_, h14_, h15_, h16_, h17_, h18_⟩
    have n0_ : Aside0 (w26.heap[gb444]? = some (.cells #[.int .i64 a0_0, .int .i64 a0_1] 35 (0, 0))) := ⟨h0_⟩
    have n1_ : Aside0 (w26.heap[gb445]? = some (.cells #[.int .i64 a1_0, .int .i64 a1_1] 35 (0, 0))) := ⟨h1_⟩
    have n2_ : Aside0 (w26.heap[gb454]? = some (.cells #[.bool false, .int .u64 0, .int .u64 0] 58 (0, 0))) := ⟨h2_⟩
    have n3_ : Aside0 (w26.heap[gb455]? = some (.cells #[.bool false, .int .u64 0, .int .u64 0] 58 (0, 0))) := ⟨h3_⟩
    have n4_ : Aside0 (w.heap.size ≤ gb454) := ⟨h4_⟩
    have n5_ : Aside0 (w.heap.size ≤ gb454) := ⟨h5_⟩
    have n6_ : Aside0 (gb444 ≠ gb454) := ⟨h6_⟩
    have n7_ : Aside0 (gb454 ≠ gb444) := ⟨h7_⟩
    have n8_ : Aside0 (gb445 ≠ gb454) := ⟨h8_⟩
    have n9_ : Aside0 (gb454 ≠ gb445) := ⟨h9_⟩
    have n10_ : Aside0 (gb455 ≠ gb454) := ⟨h10_⟩
    have n11_ : Aside0 (gb454 ≠ gb455) := ⟨h11_⟩
    have n12_ : Aside0 (w.heap.size ≤ gb455) := ⟨h12_⟩
    have n13_ : Aside0 (w.heap.size ≤ gb455) := ⟨h13_⟩
    have n14_ : Aside0 (gb444 ≠ gb455) := ⟨h14_⟩
    have n15_ : Aside0 (gb455 ≠ gb444) := ⟨h15_⟩
    have n16_ : Aside0 (gb445 ≠ gb455) := ⟨h16_⟩
    have n17_ : Aside0 (gb455 ≠ gb445) := ⟨h17_⟩
    have n18_ : Aside0 (Below w.heap.size w w26) := ⟨h18_⟩
    clear BK444
    clear BK445
    clear HB
    clear h0_ h1_ h2_ h3_ h4_ h5_ h6_ h7_ h8_ h9_ h10_ h11_ h12_ h13_ h14_ h15_ h16_ h17_ h18_
    have BK444 := n0_
    have BK445 := n1_
    have BK454 := n2_
    have BK455 := n3_
    have GW454 := n4_
    have GE454 := n5_
    have NB444_454 := n6_
    have NB454_444 := n7_
    have NB445_454 := n8_
    have NB454_445 := n9_
    have NB455_454 := n10_
    have NB454_455 := n11_
    have GW455 := n12_
    have GE455 := n13_
    have NB444_455 := n14_
    have NB455_444 := n15_
    have NB445_455 := n16_
    have NB455_445 := n17_
    have HB := n18_
    clear n0_ n1_ n2_ n3_ n4_ n5_ n6_ n7_ n8_ n9_ n10_ n11_ n12_ n13_ n14_ n15_ n16_ n17_ n18_
    have hHeld : w26.cell? ⟨gb444, 0, none⟩ = some (.int .i64 a0_0) ∧ w26.cell? ⟨gb444, 1, none⟩ = some (.int .i64 a0_1) ∧ w26.cell? ⟨gb445, 0, none⟩ = some (.int .i64 a1_0) ∧ w26.cell? ⟨gb445, 1, none⟩ = some (.int .i64 a1_1) := hS_
    refine norm_ (a' := ?_) ?_ ?_
    rotate_left
    ·simp only [putAll, Act.put, List.setIfInBounds_toArray, List.set_cons_zero, List.set_cons_succ]
     rfl
    refine one_ (i := 14) (N := none) #[true, true, true, true, true, true, true, true, true, true, true, true, true, true, true, false] rfl rfl (one_of HT_.out (by kernel_rfl)) (by decide) (fun K hK => ?_)
    have hs27 : w26.cell? ⟨gb454, 0, none⟩ = some (.bool false) := (blk_cell BK454.out 0).trans rfl
    have hfs27 := blk_frozen BK454.out 0
    have hns27_0 := NB444_454.out
    have hns27_1 := NB445_454.out
    have hns27_3 := NB455_454.out
    have hms27_0 := NB454_444.out
    have hms27_1 := NB454_445.out
    have hms27_3 := NB454_455.out
    have hs28 : w26.cell? ⟨gb454, 1, none⟩ = some (.int .u64 0) := (blk_cell BK454.out 1).trans rfl
    have hfs28 := blk_frozen BK454.out 1
    have hns28_0 := NB444_454.out
    have hns28_1 := NB445_454.out
    have hns28_3 := NB455_454.out
    have hms28_0 := NB454_444.out
    have hms28_1 := NB454_445.out
    have hms28_3 := NB454_455.out
    have hs29 : w26.cell? ⟨gb454, 2, none⟩ = some (.int .u64 0) := (blk_cell BK454.out 2).trans rfl
    have hfs29 := blk_frozen BK454.out 2
    have hns29_0 := NB444_454.out
    have hns29_1 := NB445_454.out
    have hns29_3 := NB455_454.out
    have hms29_0 := NB454_444.out
    have hms29_1 := NB454_445.out
    have hms29_3 := NB454_455.out
    refine skip_ (w1 := ?_) (by rfl) rfl ?_ ?_
    rotate_left
    ·go_simp
     rfl
    refine hK.out _ _ ⟨((cell_far (p := ⟨gb454, _, none⟩) NB444_454.out _).trans (((cell_far (p := ⟨gb454, _, none⟩) NB444_454.out _).trans (((cell_far (p := ⟨gb454, _, none⟩) NB444_454.out _).trans (hHeld.1)))))), ((cell_far (p := ⟨gb454, _, none⟩) NB444_454.out _).trans (((cell_far (p := ⟨gb454, _, none⟩) NB444_454.out _).trans (((cell_far (p := ⟨gb454, _, none⟩) NB444_454.out _).trans (hHeld.2.1)))))), ((cell_far (p := ⟨gb454, _, none⟩) NB445_454.out _).trans (((cell_far (p := ⟨gb454, _, none⟩) NB445_454.out _).trans (((cell_far (p := ⟨gb454, _, none⟩) NB445_454.out _).trans (hHeld.2.2.1)))))), ((cell_far (p := ⟨gb454, _, none⟩) NB445_454.out _).trans (((cell_far (p := ⟨gb454, _, none⟩) NB445_454.out _).trans (((cell_far (p := ⟨gb454, _, none⟩) NB445_454.out _).trans (hHeld.2.2.2))))))⟩ (fun hHeld => ?_)
    clear hK K
    refine one_ (i := 15) (N := none) #[true, true, true, true, true, true, true, true, true, true, true, true, true, true, true, true] rfl rfl (one_of HT_.out (by kernel_rfl)) (by decide) (fun K hK => ?_)
    have hs30 : w26.cell? ⟨gb455, 0, none⟩ = some (.bool false) := (blk_cell BK455.out 0).trans rfl
    have hfs30 := blk_frozen BK455.out 0
    have hns30_0 := NB444_455.out
    have hns30_1 := NB445_455.out
    have hns30_2 := NB454_455.out
    have hms30_0 := NB455_444.out
    have hms30_1 := NB455_445.out
    have hms30_2 := NB455_454.out
    have hs31 : w26.cell? ⟨gb455, 1, none⟩ = some (.int .u64 0) := (blk_cell BK455.out 1).trans rfl
    have hfs31 := blk_frozen BK455.out 1
    have hns31_0 := NB444_455.out
    have hns31_1 := NB445_455.out
    have hns31_2 := NB454_455.out
    have hms31_0 := NB455_444.out
    have hms31_1 := NB455_445.out
    have hms31_2 := NB455_454.out
    have hs32 : w26.cell? ⟨gb455, 2, none⟩ = some (.int .u64 0) := (blk_cell BK455.out 2).trans rfl
    have hfs32 := blk_frozen BK455.out 2
    have hns32_0 := NB444_455.out
    have hns32_1 := NB445_455.out
    have hns32_2 := NB454_455.out
    have hms32_0 := NB455_444.out
    have hms32_1 := NB455_445.out
    have hms32_2 := NB455_454.out
    refine skip_ (w1 := ?_) (by rfl) rfl ?_ ?_
    rotate_left
    ·go_simp
     rfl
    refine hK.out _ _ ⟨((cell_far (p := ⟨gb455, _, none⟩) NB444_455.out _).trans (((cell_far (p := ⟨gb455, _, none⟩) NB444_455.out _).trans (((cell_far (p := ⟨gb455, _, none⟩) NB444_455.out _).trans (hHeld.1)))))), ((cell_far (p := ⟨gb455, _, none⟩) NB444_455.out _).trans (((cell_far (p := ⟨gb455, _, none⟩) NB444_455.out _).trans (((cell_far (p := ⟨gb455, _, none⟩) NB444_455.out _).trans (hHeld.2.1)))))), ((cell_far (p := ⟨gb455, _, none⟩) NB445_455.out _).trans (((cell_far (p := ⟨gb455, _, none⟩) NB445_455.out _).trans (((cell_far (p := ⟨gb455, _, none⟩) NB445_455.out _).trans (hHeld.2.2.1)))))), ((cell_far (p := ⟨gb455, _, none⟩) NB445_455.out _).trans (((cell_far (p := ⟨gb455, _, none⟩) NB445_455.out _).trans (((cell_far (p := ⟨gb455, _, none⟩) NB445_455.out _).trans (hHeld.2.2.2))))))⟩ (fun hHeld => ?_)
    clear hK K
    refine done_ (done_of HT_.out (by kernel_rfl)) ?_
    go_upto_region 4 with (fail)
    go_cut [27] (fun v27 wc => ∃ (kq : Nat) (x27_19 : Bool), v27 = .bool x27_19 ∧ Aside0 (ratio_Compare.j1 kq x27_19 t448 t449 t450 t451 t452 t453 = some r) ∧ Aside0 (kq ≤ kj2) ∧ Aside0 (wc.heap[gb444]? = some (.cells #[.int .i64 a0_0, .int .i64 a0_1] 35 (0, 0))) ∧ Aside0 (wc.heap[gb445]? = some (.cells #[.int .i64 a1_0, .int .i64 a1_1] 35 (0, 0))) ∧ Aside0 (wc.heap[gb454]? = some (.cells #[.bool t448, .int .u64 t449, .int .u64 t450] 58 (0, 0))) ∧ Aside0 (wc.heap[gb455]? = some (.cells #[.bool t451, .int .u64 t452, .int .u64 t453] 58 (0, 0))) ∧ Aside0 (Below w.heap.size w wc))
    case first =>
     have H := HC20.out
     clear HC20
     by_cases c33 : t448 = true
     ·subst c33
      have H1 : (ratio_Compare.j1 kj2 (!t451) true t449 t450 t451 t452 t453) = some r := by rw [if_pos rfl] at H; exact H
      clear H
      have H := H1
      clear H1
      have H' := Aside0.mk H
      clear H
      obtain ⟨hnb34, hnc34⟩ := n2 NB454_444
      obtain ⟨hnb35, hnc35⟩ := n2 NB454_445
      obtain ⟨hnb36, hnc36⟩ := n2 NB454_455
      have hcz37_0 : w26.cell? ⟨gb454, 0, none⟩ = some (.bool false) := (blk_cell BK454.out 0).trans rfl
      have hcz37_1 : w26.cell? ⟨gb454, 1, none⟩ = some (.int .u64 0) := (blk_cell BK454.out 1).trans rfl
      have hcz37_2 : w26.cell? ⟨gb454, 2, none⟩ = some (.int .u64 0) := (blk_cell BK454.out 2).trans rfl
      have hfz37_0 := blk_frozen BK454.out 0
      have hfz37_1 := blk_frozen BK454.out 1
      have hfz37_2 := blk_frozen BK454.out 2
      obtain ⟨hnb38, hnc38⟩ := n2 NB455_444
      obtain ⟨hnb39, hnc39⟩ := n2 NB455_445
      have hcz40_0 : w26.cell? ⟨gb455, 0, none⟩ = some (.bool false) := (blk_cell BK455.out 0).trans rfl
      have hcz40_1 : w26.cell? ⟨gb455, 1, none⟩ = some (.int .u64 0) := (blk_cell BK455.out 1).trans rfl
      have hcz40_2 : w26.cell? ⟨gb455, 2, none⟩ = some (.int .u64 0) := (blk_cell BK455.out 2).trans rfl
      have hfz40_0 := blk_frozen BK455.out 0
      have hfz40_1 := blk_frozen BK455.out 1
      have hfz40_2 := blk_frozen BK455.out 2
      go_wp2
      go_meet
      case rel => exact ⟨_, (!t451), (by first | rfl | (simp; done) | (simp [*]; done)), H', ⟨by have := HJ2.out; first | omega | exact Nat.le_refl _⟩, ⟨bq BK444⟩, ⟨bq BK445⟩, ⟨by refine pe ?_; refine blk_far ?_ NB454_455.out _; refine pe ?_; refine blk_far ?_ NB454_455.out _; refine pe ?_; refine blk_far ?_ NB454_455.out _; refine pe ?_; refine blk_put (cs := #[.bool true, .int .u64 t449, .int .u64 0]) ?_ 2 _ rfl; refine pe ?_; refine blk_put (cs := #[.bool true, .int .u64 0, .int .u64 0]) ?_ 1 _ rfl; refine pe ?_; refine blk_put (cs := #[.bool false, .int .u64 0, .int .u64 0]) ?_ 0 _ rfl; refine pe ?_; exact BK454.out⟩, ⟨by refine pe ?_; refine blk_put (cs := #[.bool t451, .int .u64 t452, .int .u64 0]) ?_ 2 _ rfl; refine pe ?_; refine blk_put (cs := #[.bool t451, .int .u64 0, .int .u64 0]) ?_ 1 _ rfl; refine pe ?_; refine blk_put (cs := #[.bool false, .int .u64 0, .int .u64 0]) ?_ 0 _ rfl; refine pe ?_; refine blk_far ?_ NB455_454.out _; refine pe ?_; refine blk_far ?_ NB455_454.out _; refine pe ?_; refine blk_far ?_ NB455_454.out _; refine pe ?_; exact BK455.out⟩, ⟨bw HB⟩⟩
     ·replace c33 := Bool.eq_false_iff.mpr c33
      subst c33
      have H1 : (ratio_Compare.j1 kj2 false false t449 t450 t451 t452 t453) = some r := by rw [if_neg (show ¬ (false = true) by decide)] at H; exact H
      clear H
      have H := H1
      clear H1
      have H' := Aside0.mk H
      clear H
      obtain ⟨hnb41, hnc41⟩ := n2 NB454_444
      obtain ⟨hnb42, hnc42⟩ := n2 NB454_445
      obtain ⟨hnb43, hnc43⟩ := n2 NB454_455
      have hcz44_0 : w26.cell? ⟨gb454, 0, none⟩ = some (.bool false) := (blk_cell BK454.out 0).trans rfl
      have hcz44_1 : w26.cell? ⟨gb454, 1, none⟩ = some (.int .u64 0) := (blk_cell BK454.out 1).trans rfl
      have hcz44_2 : w26.cell? ⟨gb454, 2, none⟩ = some (.int .u64 0) := (blk_cell BK454.out 2).trans rfl
      have hfz44_0 := blk_frozen BK454.out 0
      have hfz44_1 := blk_frozen BK454.out 1
      have hfz44_2 := blk_frozen BK454.out 2
      go_wp2
      go_meet
      case rel => exact ⟨_, (false), (by first | rfl | (simp; done) | (simp [*]; done)), H', ⟨by have := HJ2.out; first | omega | exact Nat.le_refl _⟩, ⟨bq BK444⟩, ⟨bq BK445⟩, ⟨by refine pe ?_; refine blk_far ?_ NB454_455.out _; refine pe ?_; refine blk_far ?_ NB454_455.out _; refine pe ?_; refine blk_far ?_ NB454_455.out _; refine pe ?_; refine blk_put (cs := #[.bool false, .int .u64 t449, .int .u64 0]) ?_ 2 _ rfl; refine pe ?_; refine blk_put (cs := #[.bool false, .int .u64 0, .int .u64 0]) ?_ 1 _ rfl; refine pe ?_; refine blk_put (cs := #[.bool false, .int .u64 0, .int .u64 0]) ?_ 0 _ rfl; refine pe ?_; exact BK454.out⟩, ⟨by refine pe ?_; refine blk_put (cs := #[.bool t451, .int .u64 t452, .int .u64 0]) ?_ 2 _ rfl; refine pe ?_; refine blk_put (cs := #[.bool t451, .int .u64 0, .int .u64 0]) ?_ 1 _ rfl; refine pe ?_; refine blk_put (cs := #[.bool false, .int .u64 0, .int .u64 0]) ?_ 0 _ rfl; refine pe ?_; refine blk_far ?_ NB455_454.out _; refine pe ?_; refine blk_far ?_ NB455_454.out _; refine pe ?_; refine blk_far ?_ NB455_454.out _; refine pe ?_; exact BK455.out⟩, ⟨bw HB⟩⟩
    case rest =>
     clear HC20
     try clear p2
     try clear c3
     try clear c4
     try clear c5
     try clear c33
     try clear c34
     try clear c35
     try clear c36
     try clear c38
     try clear c39
     try clear c41
     try clear c42
     try clear c43
     try clear hcz37_0
     try clear hcz37_1
     try clear hcz37_2
     try clear hcz40_0
     try clear hcz40_1
     try clear hcz40_2
     try clear hcz44_0
     try clear hcz44_1
     try clear hcz44_2
     try clear hfz37_0
     try clear hfz37_1
     try clear hfz37_2
     try clear hfz40_0
     try clear hfz40_1
     try clear hfz40_2
     try clear hfz44_0
     try clear hfz44_1
     try clear hfz44_2
     obtain ⟨kq, x27_19, rfl, HA, HJ19, BK444, BK445, BK454, BK455, HB⟩ := hcut
     cases kq with
     | zero => exact absurd HA.out (by simp [ratio_Compare.j1])
     | succ kj19 =>
      have H := HA.out
      clear HA
      simp only [ratio_Compare.j1] at H
      by_cases c45 : x27_19 = true
      ·subst c45
       have H1 : (some (-1)) = some r := by rw [if_pos rfl] at H; exact H
       clear H
       have H := H1
       clear H1
       obtain rfl := Option.some.inj H
       go_wp2
       go_ret
       exact ⟨by first | rfl | (simp [errW_none, errW_some] <;> rfl) | (simp [*, errW_none, errW_some] <;> rfl), bw HB⟩
      ·replace c45 := Bool.eq_false_iff.mpr c45
       subst c45
       have H1 : (if t451 = true then (ratio_Compare.j2 kj19 (!t448) t448 t449 t450 t451 t452 t453) else (ratio_Compare.j2 kj19 false t448 t449 t450 t451 t452 t453)) = some r := by rw [if_neg (show ¬ (false = true) by decide)] at H; exact H
       clear H
       have H := H1
       clear H1
       have HC46 := Aside0.mk H
       clear H
       go_upto_region 6 with (fail)
       go_cut [35] (fun v35 wc => ∃ (kq : Nat) (x35_45 : Bool), v35 = .bool x35_45 ∧ Aside0 (ratio_Compare.j2 kq x35_45 t448 t449 t450 t451 t452 t453 = some r) ∧ Aside0 (kq ≤ kj19) ∧ Aside0 (wc.heap[gb444]? = some (.cells #[.int .i64 a0_0, .int .i64 a0_1] 35 (0, 0))) ∧ Aside0 (wc.heap[gb445]? = some (.cells #[.int .i64 a1_0, .int .i64 a1_1] 35 (0, 0))) ∧ Aside0 (wc.heap[gb454]? = some (.cells #[.bool t448, .int .u64 t449, .int .u64 t450] 58 (0, 0))) ∧ Aside0 (wc.heap[gb455]? = some (.cells #[.bool t451, .int .u64 t452, .int .u64 t453] 58 (0, 0))) ∧ Aside0 (Below w.heap.size w wc))
       case first =>
        have H := HC46.out
        clear HC46
        by_cases c47 : t451 = true
        ·subst c47
         have H1 : (ratio_Compare.j2 kj19 (!t448) t448 t449 t450 true t452 t453) = some r := by rw [if_pos rfl] at H; exact H
         clear H
         have H := H1
         clear H1
         have H' := Aside0.mk H
         clear H
         obtain ⟨hnb48, hnc48⟩ := n2 NB455_444
         obtain ⟨hnb49, hnc49⟩ := n2 NB455_445
         obtain ⟨hnb50, hnc50⟩ := n2 NB455_454
         have hcz51_0 : wc.cell? ⟨gb455, 0, none⟩ = some (.bool true) := (blk_cell BK455.out 0).trans rfl
         have hcz51_1 : wc.cell? ⟨gb455, 1, none⟩ = some (.int .u64 t452) := (blk_cell BK455.out 1).trans rfl
         have hcz51_2 : wc.cell? ⟨gb455, 2, none⟩ = some (.int .u64 t453) := (blk_cell BK455.out 2).trans rfl
         have hfz51_0 := blk_frozen BK455.out 0
         have hfz51_1 := blk_frozen BK455.out 1
         have hfz51_2 := blk_frozen BK455.out 2
         obtain ⟨hnb52, hnc52⟩ := n2 NB454_444
         obtain ⟨hnb53, hnc53⟩ := n2 NB454_445
         have hcz54_0 : wc.cell? ⟨gb454, 0, none⟩ = some (.bool t448) := (blk_cell BK454.out 0).trans rfl
         have hcz54_1 : wc.cell? ⟨gb454, 1, none⟩ = some (.int .u64 t449) := (blk_cell BK454.out 1).trans rfl
         have hcz54_2 : wc.cell? ⟨gb454, 2, none⟩ = some (.int .u64 t450) := (blk_cell BK454.out 2).trans rfl
         have hfz54_0 := blk_frozen BK454.out 0
         have hfz54_1 := blk_frozen BK454.out 1
         have hfz54_2 := blk_frozen BK454.out 2
         go_wp2
         go_meet
         case rel => exact ⟨_, (!t448), (by first | rfl | (simp; done) | (simp [*]; done)), H', ⟨by have := HJ2.out; have := HJ19.out; first | omega | exact Nat.le_refl _⟩, ⟨bq BK444⟩, ⟨bq BK445⟩, ⟨bq BK454⟩, ⟨bq BK455⟩, ⟨bw HB⟩⟩
        ·replace c47 := Bool.eq_false_iff.mpr c47
         subst c47
         have H1 : (ratio_Compare.j2 kj19 false t448 t449 t450 false t452 t453) = some r := by rw [if_neg (show ¬ (false = true) by decide)] at H; exact H
         clear H
         have H := H1
         clear H1
         have H' := Aside0.mk H
         clear H
         obtain ⟨hnb55, hnc55⟩ := n2 NB455_444
         obtain ⟨hnb56, hnc56⟩ := n2 NB455_445
         obtain ⟨hnb57, hnc57⟩ := n2 NB455_454
         have hcz58_0 : wc.cell? ⟨gb455, 0, none⟩ = some (.bool false) := (blk_cell BK455.out 0).trans rfl
         have hcz58_1 : wc.cell? ⟨gb455, 1, none⟩ = some (.int .u64 t452) := (blk_cell BK455.out 1).trans rfl
         have hcz58_2 : wc.cell? ⟨gb455, 2, none⟩ = some (.int .u64 t453) := (blk_cell BK455.out 2).trans rfl
         have hfz58_0 := blk_frozen BK455.out 0
         have hfz58_1 := blk_frozen BK455.out 1
         have hfz58_2 := blk_frozen BK455.out 2
         go_wp2
         go_meet
         case rel => exact ⟨_, (false), (by first | rfl | (simp; done) | (simp [*]; done)), H', ⟨by have := HJ2.out; have := HJ19.out; first | omega | exact Nat.le_refl _⟩, ⟨bq BK444⟩, ⟨bq BK445⟩, ⟨bq BK454⟩, ⟨bq BK455⟩, ⟨bw HB⟩⟩
       case rest =>
        clear HC46
        try clear p2
        try clear c3
        try clear c4
        try clear c5
        try clear c33
        try clear c34
        try clear c35
        try clear c36
        try clear c38
        try clear c39
        try clear c41
        try clear c42
        try clear c43
        try clear c45
        try clear c47
        try clear c48
        try clear c49
        try clear c50
        try clear c52
        try clear c53
        try clear c55
        try clear c56
        try clear c57
        try clear hcz37_0
        try clear hcz37_1
        try clear hcz37_2
        try clear hcz40_0
        try clear hcz40_1
        try clear hcz40_2
        try clear hcz44_0
        try clear hcz44_1
        try clear hcz44_2
        try clear hcz51_0
        try clear hcz51_1
        try clear hcz51_2
        try clear hcz54_0
        try clear hcz54_1
        try clear hcz54_2
        try clear hcz58_0
        try clear hcz58_1
        try clear hcz58_2
        try clear hfz37_0
        try clear hfz37_1
        try clear hfz37_2
        try clear hfz40_0
        try clear hfz40_1
        try clear hfz40_2
        try clear hfz44_0
        try clear hfz44_1
        try clear hfz44_2
        try clear hfz51_0
        try clear hfz51_1
        try clear hfz51_2
        try clear hfz54_0
        try clear hfz54_1
        try clear hfz54_2
        try clear hfz58_0
        try clear hfz58_1
        try clear hfz58_2
        try clear p2
        obtain ⟨kq, x35_45, rfl, HA, HJ45, BK444, BK445, BK454, BK455, HB⟩ := hcut
        cases kq with
        | zero => exact absurd HA.out (by simp [ratio_Compare.j2])
        | succ kj45 =>
         have H := HA.out
         clear HA
         simp only [ratio_Compare.j2] at H
         by_cases c59 : x35_45 = true
         ·subst c59
          have H1 : (some 1) = some r := by rw [if_pos rfl] at H; exact H
          clear H
          have H := H1
          clear H1
          obtain rfl := Option.some.inj H
          go_wp2
          go_ret
          exact ⟨by first | rfl | (simp [errW_none, errW_some] <;> rfl) | (simp [*, errW_none, errW_some] <;> rfl), bw HB⟩
         ·replace c59 := Bool.eq_false_iff.mpr c59
          subst c59
          have H1 : (if t448 = true then ((ratio_wide_compare.f kj45 t451 t452 t453 t448 t449 t450).bind fun t456 => (some t456)) else ((ratio_wide_compare.f kj45 t448 t449 t450 t451 t452 t453).bind fun t457 => (some t457))) = some r := by rw [if_neg (show ¬ (false = true) by decide)] at H; exact H
          clear H
          have H := H1
          clear H1
          by_cases c60 : t448 = true
          ·subst c60
           have H1 : ((ratio_wide_compare.f kj45 t451 t452 t453 true t449 t450).bind fun t456 => (some t456)) = some r := by rw [if_pos rfl] at H; exact H
           clear H
           have H := H1
           clear H1
           replace H := Option.bind_eq_some_iff.mp H
           obtain ⟨t456, A610, H⟩ := H
           replace H : (some t456) = some r := H
           have A61 := Aside0.mk A610
           clear A610
           obtain rfl := Option.some.inj H
           obtain ⟨hnb62, hnc62⟩ := n2 NB454_444
           obtain ⟨hnb63, hnc63⟩ := n2 NB454_445
           obtain ⟨hnb64, hnc64⟩ := n2 NB454_455
           have hcz65_0 : wc.cell? ⟨gb454, 0, none⟩ = some (.bool true) := (blk_cell BK454.out 0).trans rfl
           have hcz65_1 : wc.cell? ⟨gb454, 1, none⟩ = some (.int .u64 t449) := (blk_cell BK454.out 1).trans rfl
           have hcz65_2 : wc.cell? ⟨gb454, 2, none⟩ = some (.int .u64 t450) := (blk_cell BK454.out 2).trans rfl
           have hfz65_0 := blk_frozen BK454.out 0
           have hfz65_1 := blk_frozen BK454.out 1
           have hfz65_2 := blk_frozen BK454.out 2
           obtain ⟨hnb66, hnc66⟩ := n2 NB455_444
           obtain ⟨hnb67, hnc67⟩ := n2 NB455_445
           have hcz68_0 : wc.cell? ⟨gb455, 0, none⟩ = some (.bool t451) := (blk_cell BK455.out 0).trans rfl
           have hcz68_1 : wc.cell? ⟨gb455, 1, none⟩ = some (.int .u64 t452) := (blk_cell BK455.out 1).trans rfl
           have hcz68_2 : wc.cell? ⟨gb455, 2, none⟩ = some (.int .u64 t453) := (blk_cell BK455.out 2).trans rfl
           have hfz68_0 := blk_frozen BK455.out 0
           have hfz68_1 := blk_frozen BK455.out 1
           have hfz68_2 := blk_frozen BK455.out 2
           go_wp2_with (first | ((with_reducible refine gate_callee (f := 59) rfl ?_); refine goesL_ (some 48) rfl rfl Try.func59 (by kernel_rfl) rfl #[.agg #[.bool t451, .int .u64 t452, .int .u64 t453], .agg #[.bool true, .int .u64 t449, .int .u64 t450]] rfl (by (try simp only [List.map_toArray, List.map_cons, List.map_nil]); first | done | rfl | (simp only [List.length_drop, List.length_take]; rfl)) ?_; (with_reducible refine (ratio_wide_compare.calls kj45 t451 t452 t453 true t449 t450 t456 _ A61.out).mono ?_); rintro e w69 ⟨rfl, hb⟩; refine ⟨_, rfl, ?_⟩; replace BK444 := kb BK444 hb; replace BK445 := kb BK445 hb; replace BK454 := kb BK454 hb; replace BK455 := kb BK455 hb; replace HB := wb HB hb; (try clear hb); (try clear hb2); (try clear hk); (try clear hi)))
           go_ret
           exact ⟨by first | rfl | (simp [errW_none, errW_some] <;> rfl) | (simp [*, errW_none, errW_some] <;> rfl), bw HB⟩
          ·replace c60 := Bool.eq_false_iff.mpr c60
           subst c60
           have H1 : ((ratio_wide_compare.f kj45 false t449 t450 t451 t452 t453).bind fun t457 => (some t457)) = some r := by rw [if_neg (show ¬ (false = true) by decide)] at H; exact H
           clear H
           have H := H1
           clear H1
           replace H := Option.bind_eq_some_iff.mp H
           obtain ⟨t457, A700, H⟩ := H
           replace H : (some t457) = some r := H
           have A70 := Aside0.mk A700
           clear A700
           obtain rfl := Option.some.inj H
           obtain ⟨hnb71, hnc71⟩ := n2 NB454_444
           obtain ⟨hnb72, hnc72⟩ := n2 NB454_445
           obtain ⟨hnb73, hnc73⟩ := n2 NB454_455
           have hcz74_0 : wc.cell? ⟨gb454, 0, none⟩ = some (.bool false) := (blk_cell BK454.out 0).trans rfl
           have hcz74_1 : wc.cell? ⟨gb454, 1, none⟩ = some (.int .u64 t449) := (blk_cell BK454.out 1).trans rfl
           have hcz74_2 : wc.cell? ⟨gb454, 2, none⟩ = some (.int .u64 t450) := (blk_cell BK454.out 2).trans rfl
           have hfz74_0 := blk_frozen BK454.out 0
           have hfz74_1 := blk_frozen BK454.out 1
           have hfz74_2 := blk_frozen BK454.out 2
           obtain ⟨hnb75, hnc75⟩ := n2 NB455_444
           obtain ⟨hnb76, hnc76⟩ := n2 NB455_445
           have hcz77_0 : wc.cell? ⟨gb455, 0, none⟩ = some (.bool t451) := (blk_cell BK455.out 0).trans rfl
           have hcz77_1 : wc.cell? ⟨gb455, 1, none⟩ = some (.int .u64 t452) := (blk_cell BK455.out 1).trans rfl
           have hcz77_2 : wc.cell? ⟨gb455, 2, none⟩ = some (.int .u64 t453) := (blk_cell BK455.out 2).trans rfl
           have hfz77_0 := blk_frozen BK455.out 0
           have hfz77_1 := blk_frozen BK455.out 1
           have hfz77_2 := blk_frozen BK455.out 2
           go_wp2_with (first | ((with_reducible refine gate_callee (f := 59) rfl ?_); refine goesL_ (some 51) rfl rfl Try.func59 (by kernel_rfl) rfl #[.agg #[.bool false, .int .u64 t449, .int .u64 t450], .agg #[.bool t451, .int .u64 t452, .int .u64 t453]] rfl (by (try simp only [List.map_toArray, List.map_cons, List.map_nil]); first | done | rfl | (simp only [List.length_drop, List.length_take]; rfl)) ?_; (with_reducible refine (ratio_wide_compare.calls kj45 false t449 t450 t451 t452 t453 t457 _ A70.out).mono ?_); rintro e w78 ⟨rfl, hb⟩; refine ⟨_, rfl, ?_⟩; replace BK444 := kb BK444 hb; replace BK445 := kb BK445 hb; replace BK454 := kb BK454 hb; replace BK455 := kb BK455 hb; replace HB := wb HB hb; (try clear hb); (try clear hb2); (try clear hk); (try clear hi)))
           go_ret
           exact ⟨by first | rfl | (simp [errW_none, errW_some] <;> rfl) | (simp [*, errW_none, errW_some] <;> rfl), bw HB⟩

end Go.Proofs.Ytcbohbeipgcfhaa.G
