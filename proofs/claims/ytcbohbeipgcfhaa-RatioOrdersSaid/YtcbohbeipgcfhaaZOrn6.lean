/- Texts of this claim laid together: Gf39. -/
import Derived.Test.YtcbohbeipgcfhaaG0
import Derived.Test.YtcbohbeipgcfhaaZOrn2
import Derived.Test.YtcbohbeipgcfhaaZOrn1
import Derived.Test.YtcbohbeipgcfhaaZOrn3
import Derived.Test.YtcbohbeipgcfhaaZOrn5
-- Printed by gp.py (a program of this session's own, over the kit's printer) out of the translation; Lean checks it.
namespace Go.Proofs.Ytcbohbeipgcfhaa.G
open Go.Proofs.Ytcbohbeipgcfhaa.Given Go.Proofs.Ytcbohbeipgcfhaa.Short
open Go.RowKit Go.Proofs.YtcbohbeipgcfhaaW.PrintWords Go.Proofs.YtcbohbeipgcfhaaW.PrintLast Go.Proofs.YtcbohbeipgcfhaaW.PrintMore
attribute [local go_sem] max2_int min2_int max_two min_two max_three min_three max_four min_four   -- for this text's walks alone
set_option linter.unusedVariables false
set_option linter.unusedSimpArgs false

/-! ### ratio_Add: function 39 -/
mutual
def ratio_Add.j0 : Nat → Bool → Int → Int → Int → Int → Option (Int × Int × Int)
 | 0, _, _, _, _, _ => none
 | k + 1, x20, x675000, x675001, x676000, x676001 => if x20 = true then (some (0, 0, 1)) else ((ratio_gcd.f k (IntKind.u64.wrap (x675001)) (IntKind.u64.wrap (x676001))).bind fun t679 => (if t679 = 0 then (none) else ((ratio_times.f x675000 (IntKind.u64.wrap (Int.tdiv (IntKind.u64.wrap (x676001)) t679))).bind fun bt680 => ((ratio_times.f x676000 (IntKind.u64.wrap (Int.tdiv (IntKind.u64.wrap (x675001)) t679))).bind fun bt683 => ((ratio_wide_plus.f k bt680.1 bt680.2.1 bt680.2.2 bt683.1 bt683.2.1 bt683.2.2).bind fun bt686 => (if bt686.2.1 = 0 then (ratio_Add.j1 k t679 (IntKind.u64.wrap (Int.tdiv (IntKind.u64.wrap (x675001)) t679)) (IntKind.u64.wrap (Int.tdiv (IntKind.u64.wrap (x676001)) t679)) (bt686.2.2 == 0) bt686.1 bt686.2.1 bt686.2.2) else (ratio_Add.j1 k t679 (IntKind.u64.wrap (Int.tdiv (IntKind.u64.wrap (x675001)) t679)) (IntKind.u64.wrap (Int.tdiv (IntKind.u64.wrap (x676001)) t679)) false bt686.1 bt686.2.1 bt686.2.2)))))))
def ratio_Add.j1 : Nat → Int → Int → Int → Bool → Bool → Int → Int → Option (Int × Int × Int)
 | 0, _, _, _, _, _, _, _ => none
 | k + 1, x6, x7, x8, x55, x690000, x690001, x690002 => if x55 = true then (some (0, 1, 0)) else ((bits_Rem64.f k x690001 x690002 x6).bind fun t690 => ((ratio_gcd.f k x6 t690).bind fun t691 => (if t691 = 0 then (none) else ((bits_Mul64.f (IntKind.u64.wrap (Int.tdiv x6 t691)) x7).bind fun bt692 => (if bt692.1 = 0 then ((bits_Mul64.f bt692.2 x8).bind fun bt694 => (if bt694.1 = 0 then ((ratio_wide_over.f k x690000 x690001 x690002 t691).bind fun bt696 => ((ratio_lowest.f k bt696.1 bt696.2.1 bt696.2.2 bt694.2).bind fun bt699 => (some (bt699.1, bt699.2.1, bt699.2.2)))) else (some (0, 0, 6)))) else (some (0, 0, 6)))))))
end
def ratio_Add.f (k : Nat) (a0_0 : Int) (a0_1 : Int) (a1_0 : Int) (a1_1 : Int) : Option (Int × Int × Int) := (ratio_Valid.f k a0_0 a0_1).bind fun t677 => (if t677 = true then ((ratio_Valid.f k a1_0 a1_1).bind fun t678 => (ratio_Add.j0 k (!t678) a0_0 a0_1 a1_0 a1_1)) else (ratio_Add.j0 k true a0_0 a0_1 a1_0 a1_1))
theorem ratio_Add.mono_l : ∀ k, (∀ y0 y1 y2 y3 y4, LeO (ratio_Add.j0 k y0 y1 y2 y3 y4) (ratio_Add.j0 (k + 1) y0 y1 y2 y3 y4)) ∧ (∀ y0 y1 y2 y3 y4 y5 y6, LeO (ratio_Add.j1 k y0 y1 y2 y3 y4 y5 y6) (ratio_Add.j1 (k + 1) y0 y1 y2 y3 y4 y5 y6))
 | 0 => ⟨fun _ _ _ _ _ r h => by simp [ratio_Add.j0] at h, fun _ _ _ _ _ _ _ r h => by simp [ratio_Add.j1] at h⟩
 | k + 1 => by
  obtain ⟨ih0, ih1⟩ := ratio_Add.mono_l k
  refine ⟨?_, ?_⟩
  ·intro y0 y1 y2 y3 y4
   unfold ratio_Add.j0
   repeat' first
   | (with_reducible exact ih0 _ _ _ _ _)
   | (with_reducible exact ih1 _ _ _ _ _ _ _)
   | (with_reducible exact bits_Rem64.mono _ _ _ _)
   | (with_reducible exact ratio_Valid.mono _ _ _)
   | (with_reducible exact ratio_gcd.mono _ _ _)
   | (with_reducible exact ratio_lowest.mono _ _ _ _ _)
   | (with_reducible exact ratio_wide_over.mono _ _ _ _ _)
   | (with_reducible exact ratio_wide_plus.mono _ _ _ _ _ _ _)
   | (with_reducible exact LeO.refl _)
   | (with_reducible exact LeO.none _)
   | (with_reducible refine LeO.ite ?_ ?_)
   | (with_reducible refine LeO.bind ?_ (fun _ => ?_))
   | exact ih0 _ _ _ _ _
   | exact ih1 _ _ _ _ _ _ _
   | exact bits_Rem64.mono _ _ _ _
   | exact ratio_Valid.mono _ _ _
   | exact ratio_gcd.mono _ _ _
   | exact ratio_lowest.mono _ _ _ _ _
   | exact ratio_wide_over.mono _ _ _ _ _
   | exact ratio_wide_plus.mono _ _ _ _ _ _ _
   | exact LeO.none _
   | refine LeO.ite ?_ ?_
   | refine LeO.bind ?_ (fun _ => ?_)
  ·intro y0 y1 y2 y3 y4 y5 y6
   unfold ratio_Add.j1
   repeat' first
   | (with_reducible exact ih0 _ _ _ _ _)
   | (with_reducible exact ih1 _ _ _ _ _ _ _)
   | (with_reducible exact bits_Rem64.mono _ _ _ _)
   | (with_reducible exact ratio_Valid.mono _ _ _)
   | (with_reducible exact ratio_gcd.mono _ _ _)
   | (with_reducible exact ratio_lowest.mono _ _ _ _ _)
   | (with_reducible exact ratio_wide_over.mono _ _ _ _ _)
   | (with_reducible exact ratio_wide_plus.mono _ _ _ _ _ _ _)
   | (with_reducible exact LeO.refl _)
   | (with_reducible exact LeO.none _)
   | (with_reducible refine LeO.ite ?_ ?_)
   | (with_reducible refine LeO.bind ?_ (fun _ => ?_))
   | exact ih0 _ _ _ _ _
   | exact ih1 _ _ _ _ _ _ _
   | exact bits_Rem64.mono _ _ _ _
   | exact ratio_Valid.mono _ _ _
   | exact ratio_gcd.mono _ _ _
   | exact ratio_lowest.mono _ _ _ _ _
   | exact ratio_wide_over.mono _ _ _ _ _
   | exact ratio_wide_plus.mono _ _ _ _ _ _ _
   | exact LeO.none _
   | refine LeO.ite ?_ ?_
   | refine LeO.bind ?_ (fun _ => ?_)
theorem ratio_Add.mono : ∀ a0 a1 a2 a3 k, LeO (ratio_Add.f k a0 a1 a2 a3) (ratio_Add.f (k + 1) a0 a1 a2 a3) := by
 intro a0 a1 a2 a3 k
 obtain ⟨ih0, ih1⟩ := ratio_Add.mono_l k
 unfold ratio_Add.f
 repeat' first
   | (with_reducible exact ih0 _ _ _ _ _)
   | (with_reducible exact ih1 _ _ _ _ _ _ _)
   | (with_reducible exact bits_Rem64.mono _ _ _ _)
   | (with_reducible exact ratio_Valid.mono _ _ _)
   | (with_reducible exact ratio_gcd.mono _ _ _)
   | (with_reducible exact ratio_lowest.mono _ _ _ _ _)
   | (with_reducible exact ratio_wide_over.mono _ _ _ _ _)
   | (with_reducible exact ratio_wide_plus.mono _ _ _ _ _ _ _)
   | (with_reducible exact LeO.refl _)
   | (with_reducible exact LeO.none _)
   | (with_reducible refine LeO.ite ?_ ?_)
   | (with_reducible refine LeO.bind ?_ (fun _ => ?_))
   | exact ih0 _ _ _ _ _
   | exact ih1 _ _ _ _ _ _ _
   | exact bits_Rem64.mono _ _ _ _
   | exact ratio_Valid.mono _ _ _
   | exact ratio_gcd.mono _ _ _
   | exact ratio_lowest.mono _ _ _ _ _
   | exact ratio_wide_over.mono _ _ _ _ _
   | exact ratio_wide_plus.mono _ _ _ _ _ _ _
   | exact LeO.none _
   | refine LeO.ite ?_ ?_
   | refine LeO.bind ?_ (fun _ => ?_)
def ratio_Add.T4 : Bool × List (List Nat × List Nat) := (true, [([], []), ([0], [0]), ([1], [1]), ([], []), ([2, 3], [2, 3]), ([], []), ([5], [5]), ([6], [6]), ([], []), ([7, 8], [7, 8]), ([4, 0, 1, 2, 3, 4], [4]), ([9, 10, 0, 1, 2, 3, 4, 5, 6, 7, 8, 9, 10], [9])])
def ratio_Add.B4 : List Nat := [0, 1, 3, 0, 15, 0, 32, 96, 0, 480, 31, 2047]
theorem ratio_Add.tab4 : rtab .any (opsOf Try.f39 4) = ratio_Add.T4 := by kernel_rfl
theorem ratio_Add.bits4 : waitsOk ratio_Add.T4.2 ratio_Add.B4 = true := by kernel_rfl
def ratio_Add.T5 : Bool × List (List Nat × List Nat) := (true, [([], []), ([0], [0]), ([], []), ([1, 2], [1, 2]), ([], []), ([4], [4]), ([], []), ([5, 6, 3], [5, 6]), ([3, 7, 7], [3, 7]), ([], []), ([9, 8, 8, 0, 1, 2, 3, 4, 5, 6, 7, 8, 9], [8, 9])])
def ratio_Add.B5 : List Nat := [0, 1, 0, 7, 0, 16, 0, 127, 255, 0, 1023]
theorem ratio_Add.tab5 : rtab .any (opsOf Try.f39 5) = ratio_Add.T5 := by kernel_rfl
theorem ratio_Add.bits5 : waitsOk ratio_Add.T5.2 ratio_Add.B5 = true := by kernel_rfl
set_option maxHeartbeats 8000000 in
set_option maxRecDepth 100000 in
theorem ratio_Add.calls (k : Nat) (a0_0 : Int) (a0_1 : Int) (a1_0 : Int) (a1_1 : Int) (r1 : Int) (r2 : Int) (r3 : Int) (w : World) (h : ratio_Add.f k a0_0 a0_1 a1_0 a1_1 = some (r1, r2, r3)) :
  Calls Try.prog 39 #[.agg #[.int .i64 a0_0, .int .i64 a0_1], .agg #[.int .i64 a1_0, .int .i64 a1_1]] w fun e w' => e = .returned (.tuple #[.agg #[.int .i64 r1, .int .i64 r2], .int .i64 r3]) ∧ Below w.heap.size w w' := by
 have hu35 := Try.underlying35
 have hu58 := Try.underlying58
 have HB := Aside0.mk (Below.refl w.heap.size w)
 have H : ((ratio_Valid.f k a0_0 a0_1).bind fun t677 => (if t677 = true then ((ratio_Valid.f k a1_0 a1_1).bind fun t678 => (ratio_Add.j0 k (!t678) a0_0 a0_1 a1_0 a1_1)) else (ratio_Add.j0 k true a0_0 a0_1 a1_0 a1_1))) = some (r1, r2, r3) := h
 clear h
 have HC3 := Aside0.mk H
 clear H
 go_enter Try.func39, Try.ntmps39
 go_upto_region 1 with (first | ((with_reducible refine gate_dst (N := 2) rfl ?_); refine box_event ?hg (N := 2) ?hd (cs := #[.int .i64 a0_0, .int .i64 a0_1]) (t := 35) ?hr ?_; (case hd => rfl); (case hg => rfl); (case hr => first | (go_simp; done) | (go_simp; rfl)); intro gb674 hg w4 hbox hb; have BK674 := Aside0.mk (hbox); have GW674 := gs HB hg; have GE674 := gs HB hg; replace HB := wb HB hb; clear hb hbox hg) | ((with_reducible refine gate_dst (N := 3) rfl ?_); refine box_event ?hg (N := 3) ?hd (cs := #[.int .i64 a1_0, .int .i64 a1_1]) (t := 35) ?hr ?_; (case hd => rfl); (case hg => rfl); (case hr => first | (go_simp; done) | (go_simp; rfl)); intro gb675 hg w5 hbox hb; have BK675 := Aside0.mk (hbox); have GW675 := gs HB hg; have GE675 := gs HB hg; have NB674_675 := nl BK674 hg; have NB675_674 := nr BK674 hg; replace BK674 := kb BK674 hb; replace HB := wb HB hb; clear hb hbox hg) | ((with_reducible refine gate_dst (N := 4) rfl ?_); refine box_event ?hg (N := 4) ?hd (cs := #[.int .i64 0, .int .i64 0]) (t := 35) ?hr ?_; (case hd => rfl); (case hg => rfl); (case hr => first | (go_simp; done) | (go_simp; rfl)); intro gb676 hg w6 hbox hb; have BK676 := Aside0.mk (hbox); have GW676 := gs HB hg; have GE676 := gs HB hg; have NB674_676 := nl BK674 hg; have NB676_674 := nr BK674 hg; have NB675_676 := nl BK675 hg; have NB676_675 := nr BK675 hg; replace BK674 := kb BK674 hb; replace BK675 := kb BK675 hb; replace HB := wb HB hb; clear hb hbox hg))
 (try simp only [Act.put, List.setIfInBounds_toArray, List.set_cons_zero, List.set_cons_succ])
 go_cut [20] (fun v20 wc => ∃ (kq : Nat) (x20_2 : Bool), v20 = .bool x20_2 ∧ Aside0 (ratio_Add.j0 kq x20_2 a0_0 a0_1 a1_0 a1_1 = some (r1, r2, r3)) ∧ Aside0 (kq ≤ k) ∧ Aside0 (wc.heap[gb674]? = some (.cells #[.int .i64 a0_0, .int .i64 a0_1] 35 (0, 0))) ∧ Aside0 (wc.heap[gb675]? = some (.cells #[.int .i64 a1_0, .int .i64 a1_1] 35 (0, 0))) ∧ Aside0 (wc.heap[gb676]? = some (.cells #[.int .i64 0, .int .i64 0] 35 (0, 0))) ∧ Aside0 (Below w.heap.size w wc))
 case first =>
  have H := HC3.out
  clear HC3
  replace H := Option.bind_eq_some_iff.mp H
  obtain ⟨t677, A70, H⟩ := H
  replace H : (if t677 = true then ((ratio_Valid.f k a1_0 a1_1).bind fun t678 => (ratio_Add.j0 k (!t678) a0_0 a0_1 a1_0 a1_1)) else (ratio_Add.j0 k true a0_0 a0_1 a1_0 a1_1)) = some (r1, r2, r3) := H
  have A7 := Aside0.mk A70
  clear A70
  by_cases c8 : t677 = true
  ·subst c8
   have H1 : ((ratio_Valid.f k a1_0 a1_1).bind fun t678 => (ratio_Add.j0 k (!t678) a0_0 a0_1 a1_0 a1_1)) = some (r1, r2, r3) := by rw [if_pos rfl] at H; exact H
   clear H
   have H := H1
   clear H1
   replace H := Option.bind_eq_some_iff.mp H
   obtain ⟨t678, A90, H⟩ := H
   replace H : (ratio_Add.j0 k (!t678) a0_0 a0_1 a1_0 a1_1) = some (r1, r2, r3) := H
   have A9 := Aside0.mk A90
   clear A90
   have H' := Aside0.mk H
   clear H
   obtain ⟨hnb10, hnc10⟩ := n2 NB674_675
   obtain ⟨hnb11, hnc11⟩ := n2 NB674_676
   have hcz12_0 : w6.cell? ⟨gb674, 0, none⟩ = some (.int .i64 a0_0) := (blk_cell BK674.out 0).trans rfl
   have hcz12_1 : w6.cell? ⟨gb674, 1, none⟩ = some (.int .i64 a0_1) := (blk_cell BK674.out 1).trans rfl
   have hfz12_0 := blk_frozen BK674.out 0
   have hfz12_1 := blk_frozen BK674.out 1
   go_wp2_with (first | ((with_reducible refine gate_callee (f := 24) rfl ?_); refine goesL_ (some 14) rfl rfl Try.func24 (by kernel_rfl) rfl #[.agg #[.int .i64 a0_0, .int .i64 a0_1]] rfl (by (try simp only [List.map_toArray, List.map_cons, List.map_nil]); first | done | rfl | (simp only [List.length_drop, List.length_take]; rfl)) ?_; (with_reducible refine (ratio_Valid.calls k a0_0 a0_1 true _ A7.out).mono ?_); rintro e w13 ⟨rfl, hb⟩; refine ⟨_, rfl, ?_⟩; replace BK674 := kb BK674 hb; replace BK675 := kb BK675 hb; replace BK676 := kb BK676 hb; replace HB := wb HB hb; (try clear hb); (try clear hb2); (try clear hk); (try clear hi); obtain ⟨hnb14, hnc14⟩ := n2 NB675_676; have hcz15_0 : w13.cell? ⟨gb675, 0, none⟩ = some (.int .i64 a1_0) := (blk_cell BK675.out 0).trans rfl; have hcz15_1 : w13.cell? ⟨gb675, 1, none⟩ = some (.int .i64 a1_1) := (blk_cell BK675.out 1).trans rfl; have hfz15_0 := blk_frozen BK675.out 0; have hfz15_1 := blk_frozen BK675.out 1) | (go_at_call 24; (with_reducible refine (ratio_Valid.calls k a1_0 a1_1 t678 _ A9.out).mono ?_); rintro e w16 ⟨rfl, hb⟩; replace BK674 := kb BK674 hb; replace BK675 := kb BK675 hb; replace BK676 := kb BK676 hb; replace HB := wb HB hb; (try clear hb); (try clear hb2); (try clear hk); (try clear hi)))
   go_meet
   case rel => exact ⟨_, (!t678), (by first | rfl | (simp; done) | (simp [*]; done)), H', ⟨by first | omega | exact Nat.le_refl _⟩, ⟨bq BK674⟩, ⟨bq BK675⟩, ⟨bq BK676⟩, ⟨bw HB⟩⟩
  ·replace c8 := Bool.eq_false_iff.mpr c8
   subst c8
   have H1 : (ratio_Add.j0 k true a0_0 a0_1 a1_0 a1_1) = some (r1, r2, r3) := by rw [if_neg (show ¬ (false = true) by decide)] at H; exact H
   clear H
   have H := H1
   clear H1
   have H' := Aside0.mk H
   clear H
   obtain ⟨hnb17, hnc17⟩ := n2 NB674_675
   obtain ⟨hnb18, hnc18⟩ := n2 NB674_676
   have hcz19_0 : w6.cell? ⟨gb674, 0, none⟩ = some (.int .i64 a0_0) := (blk_cell BK674.out 0).trans rfl
   have hcz19_1 : w6.cell? ⟨gb674, 1, none⟩ = some (.int .i64 a0_1) := (blk_cell BK674.out 1).trans rfl
   have hfz19_0 := blk_frozen BK674.out 0
   have hfz19_1 := blk_frozen BK674.out 1
   go_wp2_with (first | ((with_reducible refine gate_callee (f := 24) rfl ?_); refine goesL_ (some 14) rfl rfl Try.func24 (by kernel_rfl) rfl #[.agg #[.int .i64 a0_0, .int .i64 a0_1]] rfl (by (try simp only [List.map_toArray, List.map_cons, List.map_nil]); first | done | rfl | (simp only [List.length_drop, List.length_take]; rfl)) ?_; (with_reducible refine (ratio_Valid.calls k a0_0 a0_1 false _ A7.out).mono ?_); rintro e w20 ⟨rfl, hb⟩; refine ⟨_, rfl, ?_⟩; replace BK674 := kb BK674 hb; replace BK675 := kb BK675 hb; replace BK676 := kb BK676 hb; replace HB := wb HB hb; (try clear hb); (try clear hb2); (try clear hk); (try clear hi)))
   go_meet
   case rel => exact ⟨_, (true), (by first | rfl | (simp; done) | (simp [*]; done)), H', ⟨by first | omega | exact Nat.le_refl _⟩, ⟨bq BK674⟩, ⟨bq BK675⟩, ⟨bq BK676⟩, ⟨bw HB⟩⟩
 case rest =>
  clear HC3
  try clear c1
  try clear c2
  try clear p2
  try clear c3
  try clear c8
  try clear c10
  try clear c11
  try clear c14
  try clear c17
  try clear c18
  try clear hcz12_0
  try clear hcz12_1
  try clear hcz15_0
  try clear hcz15_1
  try clear hcz19_0
  try clear hcz19_1
  try clear hfz12_0
  try clear hfz12_1
  try clear hfz15_0
  try clear hfz15_1
  try clear hfz19_0
  try clear hfz19_1
  obtain ⟨kq, x20_2, rfl, HA, HJ2, BK674, BK675, BK676, HB⟩ := hcut
  cases kq with
  | zero => exact absurd HA.out (by simp [ratio_Add.j0])
  | succ kj2 =>
   have H := HA.out
   clear HA
   simp only [ratio_Add.j0] at H
   by_cases c21 : x20_2 = true
   ·subst c21
    have H1 : (some (0, 0, 1)) = some (r1, r2, r3) := by rw [if_pos rfl] at H; exact H
    clear H
    have H := H1
    clear H1
    simp only [Option.some.injEq, Prod.mk.injEq] at H
    obtain ⟨rfl, rfl, rfl⟩ := H
    obtain ⟨hnb22, hnc22⟩ := n2 NB676_674
    obtain ⟨hnb23, hnc23⟩ := n2 NB676_675
    have hcz24_0 : wc.cell? ⟨gb676, 0, none⟩ = some (.int .i64 0) := (blk_cell BK676.out 0).trans rfl
    have hcz24_1 : wc.cell? ⟨gb676, 1, none⟩ = some (.int .i64 0) := (blk_cell BK676.out 1).trans rfl
    have hfz24_0 := blk_frozen BK676.out 0
    have hfz24_1 := blk_frozen BK676.out 1
    go_wp2
    refine bodyPost_ret (results_ct rfl _ _ gb676 35 #[.int .i64 0, .int .i64 0] (0, 0) _ rfl (by refine pe ?_; refine blk_put (cs := #[.int .i64 0, .int .i64 0]) ?_ 1 _ rfl; refine pe ?_; refine blk_put (cs := #[.int .i64 0, .int .i64 0]) ?_ 0 _ rfl; refine pe ?_; exact BK676.out) Try.underlying35 rfl (by kernel_rfl)) rfl ?_
    exact ⟨by first | rfl | (simp [errW_none, errW_some] <;> rfl) | (simp [*, errW_none, errW_some] <;> rfl), bw HB⟩
   ·replace c21 := Bool.eq_false_iff.mpr c21
    subst c21
    have H1 : ((ratio_gcd.f kj2 (IntKind.u64.wrap (a0_1)) (IntKind.u64.wrap (a1_1))).bind fun t679 => (if t679 = 0 then (none) else ((ratio_times.f a0_0 (IntKind.u64.wrap (Int.tdiv (IntKind.u64.wrap (a1_1)) t679))).bind fun bt680 => ((ratio_times.f a1_0 (IntKind.u64.wrap (Int.tdiv (IntKind.u64.wrap (a0_1)) t679))).bind fun bt683 => ((ratio_wide_plus.f kj2 bt680.1 bt680.2.1 bt680.2.2 bt683.1 bt683.2.1 bt683.2.2).bind fun bt686 => (if bt686.2.1 = 0 then (ratio_Add.j1 kj2 t679 (IntKind.u64.wrap (Int.tdiv (IntKind.u64.wrap (a0_1)) t679)) (IntKind.u64.wrap (Int.tdiv (IntKind.u64.wrap (a1_1)) t679)) (bt686.2.2 == 0) bt686.1 bt686.2.1 bt686.2.2) else (ratio_Add.j1 kj2 t679 (IntKind.u64.wrap (Int.tdiv (IntKind.u64.wrap (a0_1)) t679)) (IntKind.u64.wrap (Int.tdiv (IntKind.u64.wrap (a1_1)) t679)) false bt686.1 bt686.2.1 bt686.2.2))))))) = some (r1, r2, r3) := by rw [if_neg (show ¬ (false = true) by decide)] at H; exact H
    clear H
    have H := H1
    clear H1
    replace H := Option.bind_eq_some_iff.mp H
    obtain ⟨t679, A250, H⟩ := H
    replace H : (if t679 = 0 then (none) else ((ratio_times.f a0_0 (IntKind.u64.wrap (Int.tdiv (IntKind.u64.wrap (a1_1)) t679))).bind fun bt680 => ((ratio_times.f a1_0 (IntKind.u64.wrap (Int.tdiv (IntKind.u64.wrap (a0_1)) t679))).bind fun bt683 => ((ratio_wide_plus.f kj2 bt680.1 bt680.2.1 bt680.2.2 bt683.1 bt683.2.1 bt683.2.2).bind fun bt686 => (if bt686.2.1 = 0 then (ratio_Add.j1 kj2 t679 (IntKind.u64.wrap (Int.tdiv (IntKind.u64.wrap (a0_1)) t679)) (IntKind.u64.wrap (Int.tdiv (IntKind.u64.wrap (a1_1)) t679)) (bt686.2.2 == 0) bt686.1 bt686.2.1 bt686.2.2) else (ratio_Add.j1 kj2 t679 (IntKind.u64.wrap (Int.tdiv (IntKind.u64.wrap (a0_1)) t679)) (IntKind.u64.wrap (Int.tdiv (IntKind.u64.wrap (a1_1)) t679)) false bt686.1 bt686.2.1 bt686.2.2)))))) = some (r1, r2, r3) := H
    have A25 := Aside0.mk A250
    clear A250
    by_cases c26 : t679 = 0
    ·rw [if_pos c26] at H
     exact absurd H (by simp)
    ·rw [if_neg c26] at H
     have c26b0 : (t679 == 0) = false := beq_eq_false_iff_ne.mpr c26
     have c26b1 : (t679 != 0) = true := bne_iff_ne.mpr c26
     replace H := Option.bind_eq_some_iff.mp H
     obtain ⟨⟨t680, t681, t682⟩, A270, H⟩ := H
     replace H : ((ratio_times.f a1_0 (IntKind.u64.wrap (Int.tdiv (IntKind.u64.wrap (a0_1)) t679))).bind fun bt683 => ((ratio_wide_plus.f kj2 t680 t681 t682 bt683.1 bt683.2.1 bt683.2.2).bind fun bt686 => (if bt686.2.1 = 0 then (ratio_Add.j1 kj2 t679 (IntKind.u64.wrap (Int.tdiv (IntKind.u64.wrap (a0_1)) t679)) (IntKind.u64.wrap (Int.tdiv (IntKind.u64.wrap (a1_1)) t679)) (bt686.2.2 == 0) bt686.1 bt686.2.1 bt686.2.2) else (ratio_Add.j1 kj2 t679 (IntKind.u64.wrap (Int.tdiv (IntKind.u64.wrap (a0_1)) t679)) (IntKind.u64.wrap (Int.tdiv (IntKind.u64.wrap (a1_1)) t679)) false bt686.1 bt686.2.1 bt686.2.2)))) = some (r1, r2, r3) := H
     have A27 := Aside0.mk A270
     clear A270
     replace H := Option.bind_eq_some_iff.mp H
     obtain ⟨⟨t683, t684, t685⟩, A280, H⟩ := H
     replace H : ((ratio_wide_plus.f kj2 t680 t681 t682 t683 t684 t685).bind fun bt686 => (if bt686.2.1 = 0 then (ratio_Add.j1 kj2 t679 (IntKind.u64.wrap (Int.tdiv (IntKind.u64.wrap (a0_1)) t679)) (IntKind.u64.wrap (Int.tdiv (IntKind.u64.wrap (a1_1)) t679)) (bt686.2.2 == 0) bt686.1 bt686.2.1 bt686.2.2) else (ratio_Add.j1 kj2 t679 (IntKind.u64.wrap (Int.tdiv (IntKind.u64.wrap (a0_1)) t679)) (IntKind.u64.wrap (Int.tdiv (IntKind.u64.wrap (a1_1)) t679)) false bt686.1 bt686.2.1 bt686.2.2))) = some (r1, r2, r3) := H
     have A28 := Aside0.mk A280
     clear A280
     replace H := Option.bind_eq_some_iff.mp H
     obtain ⟨⟨t686, t687, t688⟩, A290, H⟩ := H
     replace H : (if t687 = 0 then (ratio_Add.j1 kj2 t679 (IntKind.u64.wrap (Int.tdiv (IntKind.u64.wrap (a0_1)) t679)) (IntKind.u64.wrap (Int.tdiv (IntKind.u64.wrap (a1_1)) t679)) (t688 == 0) t686 t687 t688) else (ratio_Add.j1 kj2 t679 (IntKind.u64.wrap (Int.tdiv (IntKind.u64.wrap (a0_1)) t679)) (IntKind.u64.wrap (Int.tdiv (IntKind.u64.wrap (a1_1)) t679)) false t686 t687 t688)) = some (r1, r2, r3) := H
     have A29 := Aside0.mk A290
     clear A290
     have HC30 := Aside0.mk H
     clear H
     obtain ⟨hnb31, hnc31⟩ := n2 NB674_675
     obtain ⟨hnb32, hnc32⟩ := n2 NB674_676
     have hcz33_0 : wc.cell? ⟨gb674, 0, none⟩ = some (.int .i64 a0_0) := (blk_cell BK674.out 0).trans rfl
     have hcz33_1 : wc.cell? ⟨gb674, 1, none⟩ = some (.int .i64 a0_1) := (blk_cell BK674.out 1).trans rfl
     have hfz33_0 := blk_frozen BK674.out 0
     have hfz33_1 := blk_frozen BK674.out 1
     obtain ⟨hnb34, hnc34⟩ := n2 NB675_676
     have hcz35_0 : wc.cell? ⟨gb675, 0, none⟩ = some (.int .i64 a1_0) := (blk_cell BK675.out 0).trans rfl
     have hcz35_1 : wc.cell? ⟨gb675, 1, none⟩ = some (.int .i64 a1_1) := (blk_cell BK675.out 1).trans rfl
     have hfz35_0 := blk_frozen BK675.out 0
     have hfz35_1 := blk_frozen BK675.out 1
     try go_wp2_with (first | ((with_reducible refine gate_callee (f := 52) rfl ?_); refine goesL_ (some 28) rfl rfl Try.func52 (by kernel_rfl) rfl #[.int .u64 (IntKind.u64.wrap (a0_1)), .int .u64 (IntKind.u64.wrap (a1_1))] rfl (by (try simp only [List.map_toArray, List.map_cons, List.map_nil]); first | done | rfl | (simp only [List.length_drop, List.length_take]; rfl)) ?_; (with_reducible refine (ratio_gcd.calls kj2 (IntKind.u64.wrap (a0_1)) (IntKind.u64.wrap (a1_1)) t679 _ A25.out).mono ?_); rintro e w' ⟨rfl, ⟨nd, rfl⟩⟩; refine ⟨_, rfl, ?_⟩; (try (rw [drewN_self wc]; generalize hq_ : World.drewN wc _ = wc; replace BK674 : Aside0 (wc.heap[gb674]? = some (.cells #[.int .i64 a0_0, .int .i64 a0_1] 35 (0, 0))) := ⟨by rw [← hq_]; exact (bq BK674)⟩; replace BK675 : Aside0 (wc.heap[gb675]? = some (.cells #[.int .i64 a1_0, .int .i64 a1_1] 35 (0, 0))) := ⟨by rw [← hq_]; exact (bq BK675)⟩; replace BK676 : Aside0 (wc.heap[gb676]? = some (.cells #[.int .i64 0, .int .i64 0] 35 (0, 0))) := ⟨by rw [← hq_]; exact (bq BK676)⟩; replace HB : Aside0 (Below w.heap.size w wc) := ⟨by rw [← hq_]; exact (bw HB)⟩; clear hq_))))
     have n0_ := Aside0.mk (blk_drew BK674.out)
     have n1_ := Aside0.mk (blk_drew BK675.out)
     have n2_ := Aside0.mk (blk_drew BK676.out)
     have n3_ := Aside0.mk (below_drew1 HB.out)
     clear BK674
     clear BK675
     clear BK676
     clear HB
     have BK674 := n0_
     have BK675 := n1_
     have BK676 := n2_
     have HB := n3_
     clear n0_ n1_ n2_ n3_
     refine start_ (n := 12) (S := fun w' => w'.cell? ⟨gb674, 0, none⟩ = some (.int .i64 a0_0) ∧ w'.cell? ⟨gb674, 1, none⟩ = some (.int .i64 a0_1) ∧ w'.cell? ⟨gb675, 0, none⟩ = some (.int .i64 a1_0) ∧ w'.cell? ⟨gb675, 1, none⟩ = some (.int .i64 a1_1)) (ds := []) #[false, false, false, false, false, false, false, false, false, false, false, false] (by kernel_rfl) rfl rfl ⟨(blk_cell BK674.out 0).trans rfl, (blk_cell BK674.out 1).trans rfl, (blk_cell BK675.out 0).trans rfl, (blk_cell BK675.out 1).trans rfl⟩ (fun hHeld => ?_); refine with_tabW ratio_Add.tab4 ratio_Add.bits4 (fun HT_ HW_ => ?_)
     generalize wc.drew = w36 at BK674 BK675 BK676 HB hHeld ⊢
     refine pure_ (i := 0) (N := some 29) (v := ?_) (a' := ?_) #[true, false, false, false, false, false, false, false, false, false, false, false] rfl rfl (any_of HT_.out (by kernel_rfl)) (fun _ _ _ h => h) (Or.inl ⟨by rfl, ?_⟩) ?_ ?_
     rotate_left
     ·intro w'
      go_simp
      with_reducible rfl
     rotate_left
     ·simp only [Act.put, List.setIfInBounds_toArray, List.set_cons_zero, List.set_cons_succ, i64_w, i32_w]
      rfl
     refine pure_ (i := 3) (N := some 32) (v := ?_) (a' := ?_) #[true, false, false, true, false, false, false, false, false, false, false, false] rfl rfl (any_of HT_.out (by kernel_rfl)) (fun _ _ _ h => h) (Or.inl ⟨by rfl, ?_⟩) ?_ ?_
     rotate_left
     ·intro w'
      go_simp
      with_reducible rfl
     rotate_left
     ·simp only [Act.put, List.setIfInBounds_toArray, List.set_cons_zero, List.set_cons_succ, i64_w, i32_w]
      rfl
     refine pure_ (i := 5) (N := some 34) (v := ?_) (a' := ?_) #[true, false, false, true, false, true, false, false, false, false, false, false] rfl rfl (any_of HT_.out (by kernel_rfl)) (fun _ _ _ h => h) (Or.inl ⟨by rfl, ?_⟩) ?_ ?_
     rotate_left
     ·intro w'
      go_simp
      with_reducible rfl
     rotate_left
     ·simp only [Act.put, List.setIfInBounds_toArray, List.set_cons_zero, List.set_cons_succ, i64_w, i32_w]
      rfl
     refine pure_ (i := 8) (N := some 37) (v := ?_) (a' := ?_) #[true, false, false, true, false, true, false, false, true, false, false, false] rfl rfl (any_of HT_.out (by kernel_rfl)) (fun _ _ _ h => h) (Or.inl ⟨by rfl, ?_⟩) ?_ ?_
     rotate_left
     ·intro w'
      go_simp
      with_reducible rfl
     rotate_left
     ·simp only [Act.put, List.setIfInBounds_toArray, List.set_cons_zero, List.set_cons_succ, i64_w, i32_w]
      rfl
     refine take_ (i := 1) (N := some 30) (v := ?_) (a' := ?_) #[true, true, false, true, false, true, false, false, true, false, false, false] rfl rfl (take_ofW HT_.out HW_.out (by kernel_rfl)) (fun _ _ _ h => h) (Or.inl ⟨by rfl, ?_⟩) hHeld ?_ ?_
     rotate_left
     ·rintro w' ⟨s0, s1, s2, s3⟩
      go_simp
      with_reducible rfl
     rotate_left
     ·simp only [Act.put, List.setIfInBounds_toArray, List.set_cons_zero, List.set_cons_succ, i64_w, i32_w]
      rfl
     refine pure_ (i := 2) (N := some 31) (v := ?_) (a' := ?_) #[true, true, true, true, false, true, false, false, true, false, false, false] rfl rfl (any_of HT_.out (by kernel_rfl)) (fun _ _ _ h => h) (Or.inl ⟨by rfl, ?_⟩) ?_ ?_
     rotate_left
     ·intro w'
      go_simp
      with_reducible rfl
     rotate_left
     ·simp only [Act.put, List.setIfInBounds_toArray, List.set_cons_zero, List.set_cons_succ, i64_w, i32_w]
      rfl
     refine pure_ (i := 4) (N := some 33) (v := ?_) (a' := ?_) #[true, true, true, true, true, true, false, false, true, false, false, false] rfl rfl (any_of HT_.out (by kernel_rfl)) (fun _ _ _ h => h) (Or.inl ⟨by rfl, ?_⟩) ?_ ?_
     rotate_left
     ·intro w'
      go_simp
      with_reducible rfl
     rotate_left
     ·simp only [Act.put, List.setIfInBounds_toArray, List.set_cons_zero, List.set_cons_succ, i64_w, i32_w]
      rfl
     refine pure_ (i := 10) (N := some 7) (v := ?_) (a' := ?_) #[true, true, true, true, true, true, false, false, true, false, true, false] rfl rfl (any_of HT_.out (by kernel_rfl)) (fun _ _ _ h => h) (Or.inl ⟨by rfl, ?_⟩) ?_ ?_
     rotate_left
     ·intro w'
      go_simp
      with_reducible rfl
     rotate_left
     ·simp only [Act.put, List.setIfInBounds_toArray, List.set_cons_zero, List.set_cons_succ, i64_w, i32_w]
      rfl
     refine take_ (i := 6) (N := some 35) (v := ?_) (a' := ?_) #[true, true, true, true, true, true, true, false, true, false, true, false] rfl rfl (take_ofW HT_.out HW_.out (by kernel_rfl)) (fun _ _ _ h => h) (Or.inl ⟨by rfl, ?_⟩) hHeld ?_ ?_
     rotate_left
     ·rintro w' ⟨s0, s1, s2, s3⟩
      go_simp
      with_reducible rfl
     rotate_left
     ·simp only [Act.put, List.setIfInBounds_toArray, List.set_cons_zero, List.set_cons_succ, i64_w, i32_w]
      rfl
     refine pure_ (i := 7) (N := some 36) (v := ?_) (a' := ?_) #[true, true, true, true, true, true, true, true, true, false, true, false] rfl rfl (any_of HT_.out (by kernel_rfl)) (fun _ _ _ h => h) (Or.inl ⟨by rfl, ?_⟩) ?_ ?_
     rotate_left
     ·intro w'
      go_simp
      with_reducible rfl
     rotate_left
     ·simp only [Act.put, List.setIfInBounds_toArray, List.set_cons_zero, List.set_cons_succ, i64_w, i32_w]
      rfl
     refine pure_ (i := 9) (N := some 38) (v := ?_) (a' := ?_) #[true, true, true, true, true, true, true, true, true, true, true, false] rfl rfl (any_of HT_.out (by kernel_rfl)) (fun _ _ _ h => h) (Or.inl ⟨by rfl, ?_⟩) ?_ ?_
     rotate_left
     ·intro w'
      go_simp
      with_reducible rfl
     rotate_left
     ·simp only [Act.put, List.setIfInBounds_toArray, List.set_cons_zero, List.set_cons_succ, i64_w, i32_w]
      rfl
     refine pure_ (i := 11) (N := some 8) (v := ?_) (a' := ?_) #[true, true, true, true, true, true, true, true, true, true, true, true] rfl rfl (any_of HT_.out (by kernel_rfl)) (fun _ _ _ h => h) (Or.inl ⟨by rfl, ?_⟩) ?_ ?_
     rotate_left
     ·intro w'
      go_simp
      with_reducible rfl
     rotate_left
     ·simp only [Act.put, List.setIfInBounds_toArray, List.set_cons_zero, List.set_cons_succ, i64_w, i32_w]
      rfl
     refine done_ (done_of HT_.out (by kernel_rfl)) ?_
     try go_wp2
     have n0_ := Aside0.mk (blk_drew BK674.out)
     have n1_ := Aside0.mk (blk_drew BK675.out)
     have n2_ := Aside0.mk (blk_drew BK676.out)
     have n3_ := Aside0.mk (below_drew1 HB.out)
     clear BK674
     clear BK675
     clear BK676
     clear HB
     have BK674 := n0_
     have BK675 := n1_
     have BK676 := n2_
     have HB := n3_
     clear n0_ n1_ n2_ n3_
     refine start_ (n := 11) (S := fun w' => w'.cell? ⟨gb674, 0, none⟩ = some (.int .i64 a0_0) ∧ w'.cell? ⟨gb674, 1, none⟩ = some (.int .i64 a0_1) ∧ w'.cell? ⟨gb675, 0, none⟩ = some (.int .i64 a1_0) ∧ w'.cell? ⟨gb675, 1, none⟩ = some (.int .i64 a1_1)) (ds := []) #[false, false, false, false, false, false, false, false, false, false, false] (by kernel_rfl) rfl rfl ⟨(blk_cell BK674.out 0).trans rfl, (blk_cell BK674.out 1).trans rfl, (blk_cell BK675.out 0).trans rfl, (blk_cell BK675.out 1).trans rfl⟩ (fun hHeld => ?_); refine with_tabW ratio_Add.tab5 ratio_Add.bits5 (fun HT_ HW_ => ?_)
     generalize w36.drew = w37 at BK674 BK675 BK676 HB hHeld ⊢
     refine pure_ (i := 0) (N := some 39) (v := ?_) (a' := ?_) #[true, false, false, false, false, false, false, false, false, false, false] rfl rfl (any_of HT_.out (by kernel_rfl)) (fun _ _ _ h => h) (Or.inl ⟨by rfl, ?_⟩) ?_ ?_
     rotate_left
     ·intro w'
      go_simp
      with_reducible rfl
     rotate_left
     ·simp only [Act.put, List.setIfInBounds_toArray, List.set_cons_zero, List.set_cons_succ, i64_w, i32_w]
      rfl
     refine pure_ (i := 2) (N := some 41) (v := ?_) (a' := ?_) #[true, false, true, false, false, false, false, false, false, false, false] rfl rfl (any_of HT_.out (by kernel_rfl)) (fun _ _ _ h => h) (Or.inl ⟨by rfl, ?_⟩) ?_ ?_
     rotate_left
     ·intro w'
      go_simp
      with_reducible rfl
     rotate_left
     ·simp only [Act.put, List.setIfInBounds_toArray, List.set_cons_zero, List.set_cons_succ, i64_w, i32_w]
      rfl
     refine pure_ (i := 4) (N := some 43) (v := ?_) (a' := ?_) #[true, false, true, false, true, false, false, false, false, false, false] rfl rfl (any_of HT_.out (by kernel_rfl)) (fun _ _ _ h => h) (Or.inl ⟨by rfl, ?_⟩) ?_ ?_
     rotate_left
     ·intro w'
      go_simp
      with_reducible rfl
     rotate_left
     ·simp only [Act.put, List.setIfInBounds_toArray, List.set_cons_zero, List.set_cons_succ, i64_w, i32_w]
      rfl
     refine pure_ (i := 6) (N := some 45) (v := ?_) (a' := ?_) #[true, false, true, false, true, false, true, false, false, false, false] rfl rfl (any_of HT_.out (by kernel_rfl)) (fun _ _ _ h => h) (Or.inl ⟨by rfl, ?_⟩) ?_ ?_
     rotate_left
     ·intro w'
      go_simp
      with_reducible rfl
     rotate_left
     ·simp only [Act.put, List.setIfInBounds_toArray, List.set_cons_zero, List.set_cons_succ, i64_w, i32_w]
      rfl
     refine take_ (i := 1) (N := some 40) (v := ?_) (a' := ?_) #[true, true, true, false, true, false, true, false, false, false, false] rfl rfl (take_ofW HT_.out HW_.out (by kernel_rfl)) (fun _ _ _ h => h) (Or.inl ⟨by rfl, ?_⟩) hHeld ?_ ?_
     rotate_left
     ·rintro w' ⟨s0, s1, s2, s3⟩
      go_simp
      with_reducible rfl
     rotate_left
     ·simp only [Act.put, List.setIfInBounds_toArray, List.set_cons_zero, List.set_cons_succ, i64_w, i32_w]
      rfl
     refine take_ (i := 5) (N := some 44) (v := ?_) (a' := ?_) #[true, true, true, false, true, true, true, false, false, false, false] rfl rfl (take_ofW HT_.out HW_.out (by kernel_rfl)) (fun _ _ _ h => h) (Or.inl ⟨by rfl, ?_⟩) hHeld ?_ ?_
     rotate_left
     ·rintro w' ⟨s0, s1, s2, s3⟩
      go_simp
      with_reducible rfl
     rotate_left
     ·simp only [Act.put, List.setIfInBounds_toArray, List.set_cons_zero, List.set_cons_succ, i64_w, i32_w]
      rfl
     refine join_ (σ := Nat) 1 #[true, true, true, true, true, true, true, true, true, true, false] (fun s_ => [(42, .agg #[.bool t680, .int .u64 t681, .int .u64 t682]), (46, .agg #[.bool t683, .int .u64 t684, .int .u64 t685]), (47, .agg #[.bool t686, .int .u64 t687, .int .u64 t688]), (9, .pointer (some ⟨s_, 0, none⟩))]) (fun s_ w' => (w'.cell? ⟨gb674, 0, none⟩ = some (.int .i64 a0_0) ∧ w'.cell? ⟨gb674, 1, none⟩ = some (.int .i64 a0_1) ∧ w'.cell? ⟨gb675, 0, none⟩ = some (.int .i64 a1_0) ∧ w'.cell? ⟨gb675, 1, none⟩ = some (.int .i64 a1_1)) ∧ (w'.heap[gb674]? = some (.cells #[.int .i64 a0_0, .int .i64 a0_1] 35 (0, 0))) ∧ (w'.heap[gb675]? = some (.cells #[.int .i64 a1_0, .int .i64 a1_1] 35 (0, 0))) ∧ (w'.heap[gb676]? = some (.cells #[.int .i64 0, .int .i64 0] 35 (0, 0))) ∧ (w'.heap[s_]? = some (.cells #[.bool false, .int .u64 0, .int .u64 0] 58 (0, 0))) ∧ (w.heap.size ≤ s_) ∧ (w.heap.size ≤ s_) ∧ (gb674 ≠ s_) ∧ (s_ ≠ gb674) ∧ (gb675 ≠ s_) ∧ (s_ ≠ gb675) ∧ (gb676 ≠ s_) ∧ (s_ ≠ gb676) ∧ (Below w.heap.size w w')) ?_ ?_
     rotate_left
     ·intro hCont
      refine two_ (i := 3) (j := 9) (Ni := some 42) (Nj := some 9) #[true, true, true, true, true, true, true, false, false, false, false] #[true, true, true, false, true, true, true, false, false, true, false] rfl rfl rfl rfl (two_of HT_.out (by kernel_rfl)) (by decide) (by decide) (fun K hK => ?_) (fun K hK => ?_)
      ·skip
       refine goes_ Try.func56 (by kernel_rfl) rfl #[.int .i64 a0_0, .int .u64 (IntKind.u64.wrap (Int.tdiv (IntKind.u64.wrap (a1_1)) t679))] (by rfl) rfl rfl (by (try simp only [List.map_toArray, List.map_cons, List.map_nil]); first | done | rfl | (simp only [List.length_drop, List.length_take]; rfl)) ?_
       with_reducible refine (ratio_times.calls a0_0 (IntKind.u64.wrap (Int.tdiv (IntKind.u64.wrap (a1_1)) t679)) t680 t681 t682 _ A27.out).mono ?_
       rintro e w38 ⟨rfl, hb⟩
       refine ⟨_, rfl, ?_⟩
       have n0_ := kb BK674 hb
       have n1_ := kb BK675 hb
       have n2_ := kb BK676 hb
       have n3_ := wb HB hb
       clear BK674
       clear BK675
       clear BK676
       clear HB
       have BK674 := n0_
       have BK675 := n1_
       have BK676 := n2_
       have HB := n3_
       clear n0_ n1_ n2_ n3_
       (try clear hb)
       (try clear hb2)
       (try clear hk)
       (try clear hi)
       refine hK.out _ _ ⟨(blk_cell BK674.out 0).trans rfl, (blk_cell BK674.out 1).trans rfl, (blk_cell BK675.out 0).trans rfl, (blk_cell BK675.out 1).trans rfl⟩ (fun hHeld => ?_)
       clear hK K
       refine norm_ (a' := ?_) ?_ ?_
       rotate_left
       ·show Act.put _ (some 42) _ = _
        simp only [Act.put, List.setIfInBounds_toArray, List.set_cons_zero, List.set_cons_succ, i64_w, i32_w]
        rfl
       refine two_ (i := 7) (j := 9) (Ni := some 46) (Nj := some 9) #[true, true, true, true, true, true, true, true, false, false, false] #[true, true, true, true, true, true, true, false, false, true, false] rfl rfl rfl rfl (two_of HT_.out (by kernel_rfl)) (by decide) (by decide) (fun K hK => ?_) (fun K hK => ?_)
       ·skip
        refine goes_ Try.func56 (by kernel_rfl) rfl #[.int .i64 a1_0, .int .u64 (IntKind.u64.wrap (Int.tdiv (IntKind.u64.wrap (a0_1)) t679))] (by rfl) rfl rfl (by (try simp only [List.map_toArray, List.map_cons, List.map_nil]); first | done | rfl | (simp only [List.length_drop, List.length_take]; rfl)) ?_
        with_reducible refine (ratio_times.calls a1_0 (IntKind.u64.wrap (Int.tdiv (IntKind.u64.wrap (a0_1)) t679)) t683 t684 t685 _ A28.out).mono ?_
        rintro e w39 ⟨rfl, hb⟩
        refine ⟨_, rfl, ?_⟩
        have n0_ := kb BK674 hb
        have n1_ := kb BK675 hb
        have n2_ := kb BK676 hb
        have n3_ := wb HB hb
        clear BK674
        clear BK675
        clear BK676
        clear HB
        have BK674 := n0_
        have BK675 := n1_
        have BK676 := n2_
        have HB := n3_
        clear n0_ n1_ n2_ n3_
        (try clear hb)
        (try clear hb2)
        (try clear hk)
        (try clear hi)
        refine hK.out _ _ ⟨(blk_cell BK674.out 0).trans rfl, (blk_cell BK674.out 1).trans rfl, (blk_cell BK675.out 0).trans rfl, (blk_cell BK675.out 1).trans rfl⟩ (fun hHeld => ?_)
        clear hK K
        refine norm_ (a' := ?_) ?_ ?_
        rotate_left
        ·show Act.put _ (some 46) _ = _
         simp only [Act.put, List.setIfInBounds_toArray, List.set_cons_zero, List.set_cons_succ, i64_w, i32_w]
         rfl
        refine two_ (i := 8) (j := 9) (Ni := some 47) (Nj := some 9) #[true, true, true, true, true, true, true, true, true, false, false] #[true, true, true, true, true, true, true, true, false, true, false] rfl rfl rfl rfl (two_of HT_.out (by kernel_rfl)) (by decide) (by decide) (fun K hK => ?_) (fun K hK => ?_)
        ·skip
         refine goes_ Try.func62 (by kernel_rfl) rfl #[.agg #[.bool t680, .int .u64 t681, .int .u64 t682], .agg #[.bool t683, .int .u64 t684, .int .u64 t685]] (by rfl) rfl rfl (by (try simp only [List.map_toArray, List.map_cons, List.map_nil]); first | done | rfl | (simp only [List.length_drop, List.length_take]; rfl)) ?_
         with_reducible refine (ratio_wide_plus.calls kj2 t680 t681 t682 t683 t684 t685 t686 t687 t688 _ A29.out).mono ?_
         rintro e w40 ⟨rfl, hb⟩
         refine ⟨_, rfl, ?_⟩
         have n0_ := kb BK674 hb
         have n1_ := kb BK675 hb
         have n2_ := kb BK676 hb
         have n3_ := wb HB hb
         clear BK674
         clear BK675
         clear BK676
         clear HB
         have BK674 := n0_
         have BK675 := n1_
         have BK676 := n2_
         have HB := n3_
         clear n0_ n1_ n2_ n3_
         (try clear hb)
         (try clear hb2)
         (try clear hk)
         (try clear hi)
         refine hK.out _ _ ⟨(blk_cell BK674.out 0).trans rfl, (blk_cell BK674.out 1).trans rfl, (blk_cell BK675.out 0).trans rfl, (blk_cell BK675.out 1).trans rfl⟩ (fun hHeld => ?_)
         clear hK K
         refine norm_ (a' := ?_) ?_ ?_
         rotate_left
         ·show Act.put _ (some 47) _ = _
          simp only [Act.put, List.setIfInBounds_toArray, List.set_cons_zero, List.set_cons_succ, i64_w, i32_w]
          rfl
         refine one_ (i := 9) (N := some 9) #[true, true, true, true, true, true, true, true, true, true, false] rfl rfl (one_of HT_.out (by kernel_rfl)) (by decide) (fun K hK => ?_)
         refine box_step ?hg (N := 9) ?hd (cs := #[.bool false, .int .u64 0, .int .u64 0]) (t := 58) ?hr ?_; (case hd => rfl); (case hg => rfl); (case hr => first | (go_simp; done) | (go_simp; rfl))
         intro gb689 hg w41 hbox hb
         have n0_ := kb BK674 hb
         have n1_ := kb BK675 hb
         have n2_ := kb BK676 hb
         have n3_ := wb HB hb
         have n4_ := Aside0.mk (hbox)
         have n5_ := gs HB hg
         have n6_ := gs HB hg
         have n7_ := nl BK674 hg
         have n8_ := nr BK674 hg
         have n9_ := nl BK675 hg
         have n10_ := nr BK675 hg
         have n11_ := nl BK676 hg
         have n12_ := nr BK676 hg
         clear BK674
         clear BK675
         clear BK676
         clear HB
         have BK674 := n0_
         have BK675 := n1_
         have BK676 := n2_
         have HB := n3_
         have BK689 := n4_
         have GW689 := n5_
         have GE689 := n6_
         have NB674_689 := n7_
         have NB689_674 := n8_
         have NB675_689 := n9_
         have NB689_675 := n10_
         have NB676_689 := n11_
         have NB689_676 := n12_
         clear n0_ n1_ n2_ n3_ n4_ n5_ n6_ n7_ n8_ n9_ n10_ n11_ n12_
         clear hb hbox hg
         refine hK.out _ _ ⟨(blk_cell BK674.out 0).trans rfl, (blk_cell BK674.out 1).trans rfl, (blk_cell BK675.out 0).trans rfl, (blk_cell BK675.out 1).trans rfl⟩ (fun hHeld => ?_)
         clear hK K
         refine norm_ (a' := ?_) ?_ ?_
         rotate_left
         ·show Act.put _ (some 9) _ = _
          simp only [Act.put, List.setIfInBounds_toArray, List.set_cons_zero, List.set_cons_succ, i64_w, i32_w]
          rfl
         exact norm_ (by simp only [putAll, Act.put, List.setIfInBounds_toArray, List.set_cons_zero, List.set_cons_succ]) (hCont (gb689) _ ⟨hHeld, (bq BK674), (bq BK675), (bq BK676), (bq BK689), GW689.out, GE689.out, NB674_689.out, NB689_674.out, NB675_689.out, NB689_675.out, NB676_689.out, NB689_676.out, (bw HB)⟩)
        ·skip
         refine box_step ?hg (N := 9) ?hd (cs := #[.bool false, .int .u64 0, .int .u64 0]) (t := 58) ?hr ?_; (case hd => rfl); (case hg => rfl); (case hr => first | (go_simp; done) | (go_simp; rfl))
         intro gb689 hg w40 hbox hb
         have n0_ := kb BK674 hb
         have n1_ := kb BK675 hb
         have n2_ := kb BK676 hb
         have n3_ := wb HB hb
         have n4_ := Aside0.mk (hbox)
         have n5_ := gs HB hg
         have n6_ := gs HB hg
         have n7_ := nl BK674 hg
         have n8_ := nr BK674 hg
         have n9_ := nl BK675 hg
         have n10_ := nr BK675 hg
         have n11_ := nl BK676 hg
         have n12_ := nr BK676 hg
         clear BK674
         clear BK675
         clear BK676
         clear HB
         have BK674 := n0_
         have BK675 := n1_
         have BK676 := n2_
         have HB := n3_
         have BK689 := n4_
         have GW689 := n5_
         have GE689 := n6_
         have NB674_689 := n7_
         have NB689_674 := n8_
         have NB675_689 := n9_
         have NB689_675 := n10_
         have NB676_689 := n11_
         have NB689_676 := n12_
         clear n0_ n1_ n2_ n3_ n4_ n5_ n6_ n7_ n8_ n9_ n10_ n11_ n12_
         clear hb hbox hg
         refine hK.out _ _ ⟨(blk_cell BK674.out 0).trans rfl, (blk_cell BK674.out 1).trans rfl, (blk_cell BK675.out 0).trans rfl, (blk_cell BK675.out 1).trans rfl⟩ (fun hHeld => ?_)
         clear hK K
         refine norm_ (a' := ?_) ?_ ?_
         rotate_left
         ·show Act.put _ (some 9) _ = _
          simp only [Act.put, List.setIfInBounds_toArray, List.set_cons_zero, List.set_cons_succ, i64_w, i32_w]
          rfl
         refine one_ (i := 8) (N := some 47) #[true, true, true, true, true, true, true, true, true, true, false] rfl rfl (one_of HT_.out (by kernel_rfl)) (by decide) (fun K hK => ?_)
         refine goes_ Try.func62 (by kernel_rfl) rfl #[.agg #[.bool t680, .int .u64 t681, .int .u64 t682], .agg #[.bool t683, .int .u64 t684, .int .u64 t685]] (by rfl) rfl rfl (by (try simp only [List.map_toArray, List.map_cons, List.map_nil]); first | done | rfl | (simp only [List.length_drop, List.length_take]; rfl)) ?_
         with_reducible refine (ratio_wide_plus.calls kj2 t680 t681 t682 t683 t684 t685 t686 t687 t688 _ A29.out).mono ?_
         rintro e w41 ⟨rfl, hb⟩
         refine ⟨_, rfl, ?_⟩
         have n0_ := kb BK674 hb
         have n1_ := kb BK675 hb
         have n2_ := kb BK676 hb
         have n3_ := kb BK689 hb
         have n4_ := wb HB hb
         clear BK674
         clear BK675
         clear BK676
         clear BK689
         clear HB
         have BK674 := n0_
         have BK675 := n1_
         have BK676 := n2_
         have BK689 := n3_
         have HB := n4_
         clear n0_ n1_ n2_ n3_ n4_
         (try clear hb)
         (try clear hb2)
         (try clear hk)
         (try clear hi)
         refine hK.out _ _ ⟨(blk_cell BK674.out 0).trans rfl, (blk_cell BK674.out 1).trans rfl, (blk_cell BK675.out 0).trans rfl, (blk_cell BK675.out 1).trans rfl⟩ (fun hHeld => ?_)
         clear hK K
         refine norm_ (a' := ?_) ?_ ?_
         rotate_left
         ·show Act.put _ (some 47) _ = _
          simp only [Act.put, List.setIfInBounds_toArray, List.set_cons_zero, List.set_cons_succ, i64_w, i32_w]
          rfl
         exact norm_ (by simp only [putAll, Act.put, List.setIfInBounds_toArray, List.set_cons_zero, List.set_cons_succ]) (hCont (gb689) _ ⟨hHeld, (bq BK674), (bq BK675), (bq BK676), (bq BK689), GW689.out, GE689.out, NB674_689.out, NB689_674.out, NB675_689.out, NB689_675.out, NB676_689.out, NB689_676.out, (bw HB)⟩)
       ·skip
        refine box_step ?hg (N := 9) ?hd (cs := #[.bool false, .int .u64 0, .int .u64 0]) (t := 58) ?hr ?_; (case hd => rfl); (case hg => rfl); (case hr => first | (go_simp; done) | (go_simp; rfl))
        intro gb689 hg w39 hbox hb
        have n0_ := kb BK674 hb
        have n1_ := kb BK675 hb
        have n2_ := kb BK676 hb
        have n3_ := wb HB hb
        have n4_ := Aside0.mk (hbox)
        have n5_ := gs HB hg
        have n6_ := gs HB hg
        have n7_ := nl BK674 hg
        have n8_ := nr BK674 hg
        have n9_ := nl BK675 hg
        have n10_ := nr BK675 hg
        have n11_ := nl BK676 hg
        have n12_ := nr BK676 hg
        clear BK674
        clear BK675
        clear BK676
        clear HB
        have BK674 := n0_
        have BK675 := n1_
        have BK676 := n2_
        have HB := n3_
        have BK689 := n4_
        have GW689 := n5_
        have GE689 := n6_
        have NB674_689 := n7_
        have NB689_674 := n8_
        have NB675_689 := n9_
        have NB689_675 := n10_
        have NB676_689 := n11_
        have NB689_676 := n12_
        clear n0_ n1_ n2_ n3_ n4_ n5_ n6_ n7_ n8_ n9_ n10_ n11_ n12_
        clear hb hbox hg
        refine hK.out _ _ ⟨(blk_cell BK674.out 0).trans rfl, (blk_cell BK674.out 1).trans rfl, (blk_cell BK675.out 0).trans rfl, (blk_cell BK675.out 1).trans rfl⟩ (fun hHeld => ?_)
        clear hK K
        refine norm_ (a' := ?_) ?_ ?_
        rotate_left
        ·show Act.put _ (some 9) _ = _
         simp only [Act.put, List.setIfInBounds_toArray, List.set_cons_zero, List.set_cons_succ, i64_w, i32_w]
         rfl
        refine one_ (i := 7) (N := some 46) #[true, true, true, true, true, true, true, true, false, true, false] rfl rfl (one_of HT_.out (by kernel_rfl)) (by decide) (fun K hK => ?_)
        refine goes_ Try.func56 (by kernel_rfl) rfl #[.int .i64 a1_0, .int .u64 (IntKind.u64.wrap (Int.tdiv (IntKind.u64.wrap (a0_1)) t679))] (by rfl) rfl rfl (by (try simp only [List.map_toArray, List.map_cons, List.map_nil]); first | done | rfl | (simp only [List.length_drop, List.length_take]; rfl)) ?_
        with_reducible refine (ratio_times.calls a1_0 (IntKind.u64.wrap (Int.tdiv (IntKind.u64.wrap (a0_1)) t679)) t683 t684 t685 _ A28.out).mono ?_
        rintro e w40 ⟨rfl, hb⟩
        refine ⟨_, rfl, ?_⟩
        have n0_ := kb BK674 hb
        have n1_ := kb BK675 hb
        have n2_ := kb BK676 hb
        have n3_ := kb BK689 hb
        have n4_ := wb HB hb
        clear BK674
        clear BK675
        clear BK676
        clear BK689
        clear HB
        have BK674 := n0_
        have BK675 := n1_
        have BK676 := n2_
        have BK689 := n3_
        have HB := n4_
        clear n0_ n1_ n2_ n3_ n4_
        (try clear hb)
        (try clear hb2)
        (try clear hk)
        (try clear hi)
        refine hK.out _ _ ⟨(blk_cell BK674.out 0).trans rfl, (blk_cell BK674.out 1).trans rfl, (blk_cell BK675.out 0).trans rfl, (blk_cell BK675.out 1).trans rfl⟩ (fun hHeld => ?_)
        clear hK K
        refine norm_ (a' := ?_) ?_ ?_
        rotate_left
        ·show Act.put _ (some 46) _ = _
         simp only [Act.put, List.setIfInBounds_toArray, List.set_cons_zero, List.set_cons_succ, i64_w, i32_w]
         rfl
        refine one_ (i := 8) (N := some 47) #[true, true, true, true, true, true, true, true, true, true, false] rfl rfl (one_of HT_.out (by kernel_rfl)) (by decide) (fun K hK => ?_)
        refine goes_ Try.func62 (by kernel_rfl) rfl #[.agg #[.bool t680, .int .u64 t681, .int .u64 t682], .agg #[.bool t683, .int .u64 t684, .int .u64 t685]] (by rfl) rfl rfl (by (try simp only [List.map_toArray, List.map_cons, List.map_nil]); first | done | rfl | (simp only [List.length_drop, List.length_take]; rfl)) ?_
        with_reducible refine (ratio_wide_plus.calls kj2 t680 t681 t682 t683 t684 t685 t686 t687 t688 _ A29.out).mono ?_
        rintro e w41 ⟨rfl, hb⟩
        refine ⟨_, rfl, ?_⟩
        have n0_ := kb BK674 hb
        have n1_ := kb BK675 hb
        have n2_ := kb BK676 hb
        have n3_ := kb BK689 hb
        have n4_ := wb HB hb
        clear BK674
        clear BK675
        clear BK676
        clear BK689
        clear HB
        have BK674 := n0_
        have BK675 := n1_
        have BK676 := n2_
        have BK689 := n3_
        have HB := n4_
        clear n0_ n1_ n2_ n3_ n4_
        (try clear hb)
        (try clear hb2)
        (try clear hk)
        (try clear hi)
        refine hK.out _ _ ⟨(blk_cell BK674.out 0).trans rfl, (blk_cell BK674.out 1).trans rfl, (blk_cell BK675.out 0).trans rfl, (blk_cell BK675.out 1).trans rfl⟩ (fun hHeld => ?_)
        clear hK K
        refine norm_ (a' := ?_) ?_ ?_
        rotate_left
        ·show Act.put _ (some 47) _ = _
         simp only [Act.put, List.setIfInBounds_toArray, List.set_cons_zero, List.set_cons_succ, i64_w, i32_w]
         rfl
        exact norm_ (by simp only [putAll, Act.put, List.setIfInBounds_toArray, List.set_cons_zero, List.set_cons_succ]) (hCont (gb689) _ ⟨hHeld, (bq BK674), (bq BK675), (bq BK676), (bq BK689), GW689.out, GE689.out, NB674_689.out, NB689_674.out, NB675_689.out, NB689_675.out, NB676_689.out, NB689_676.out, (bw HB)⟩)
      ·skip
       refine box_step ?hg (N := 9) ?hd (cs := #[.bool false, .int .u64 0, .int .u64 0]) (t := 58) ?hr ?_; (case hd => rfl); (case hg => rfl); (case hr => first | (go_simp; done) | (go_simp; rfl))
       intro gb689 hg w38 hbox hb
       have n0_ := kb BK674 hb
       have n1_ := kb BK675 hb
       have n2_ := kb BK676 hb
       have n3_ := wb HB hb
       have n4_ := Aside0.mk (hbox)
       have n5_ := gs HB hg
       have n6_ := gs HB hg
       have n7_ := nl BK674 hg
       have n8_ := nr BK674 hg
       have n9_ := nl BK675 hg
       have n10_ := nr BK675 hg
       have n11_ := nl BK676 hg
       have n12_ := nr BK676 hg
       clear BK674
       clear BK675
       clear BK676
       clear HB
       have BK674 := n0_
       have BK675 := n1_
       have BK676 := n2_
       have HB := n3_
       have BK689 := n4_
       have GW689 := n5_
       have GE689 := n6_
       have NB674_689 := n7_
       have NB689_674 := n8_
       have NB675_689 := n9_
       have NB689_675 := n10_
       have NB676_689 := n11_
       have NB689_676 := n12_
       clear n0_ n1_ n2_ n3_ n4_ n5_ n6_ n7_ n8_ n9_ n10_ n11_ n12_
       clear hb hbox hg
       refine hK.out _ _ ⟨(blk_cell BK674.out 0).trans rfl, (blk_cell BK674.out 1).trans rfl, (blk_cell BK675.out 0).trans rfl, (blk_cell BK675.out 1).trans rfl⟩ (fun hHeld => ?_)
       clear hK K
       refine norm_ (a' := ?_) ?_ ?_
       rotate_left
       ·show Act.put _ (some 9) _ = _
        simp only [Act.put, List.setIfInBounds_toArray, List.set_cons_zero, List.set_cons_succ, i64_w, i32_w]
        rfl
       refine one_ (i := 3) (N := some 42) #[true, true, true, true, true, true, true, false, false, true, false] rfl rfl (one_of HT_.out (by kernel_rfl)) (by decide) (fun K hK => ?_)
       refine goes_ Try.func56 (by kernel_rfl) rfl #[.int .i64 a0_0, .int .u64 (IntKind.u64.wrap (Int.tdiv (IntKind.u64.wrap (a1_1)) t679))] (by rfl) rfl rfl (by (try simp only [List.map_toArray, List.map_cons, List.map_nil]); first | done | rfl | (simp only [List.length_drop, List.length_take]; rfl)) ?_
       with_reducible refine (ratio_times.calls a0_0 (IntKind.u64.wrap (Int.tdiv (IntKind.u64.wrap (a1_1)) t679)) t680 t681 t682 _ A27.out).mono ?_
       rintro e w39 ⟨rfl, hb⟩
       refine ⟨_, rfl, ?_⟩
       have n0_ := kb BK674 hb
       have n1_ := kb BK675 hb
       have n2_ := kb BK676 hb
       have n3_ := kb BK689 hb
       have n4_ := wb HB hb
       clear BK674
       clear BK675
       clear BK676
       clear BK689
       clear HB
       have BK674 := n0_
       have BK675 := n1_
       have BK676 := n2_
       have BK689 := n3_
       have HB := n4_
       clear n0_ n1_ n2_ n3_ n4_
       (try clear hb)
       (try clear hb2)
       (try clear hk)
       (try clear hi)
       refine hK.out _ _ ⟨(blk_cell BK674.out 0).trans rfl, (blk_cell BK674.out 1).trans rfl, (blk_cell BK675.out 0).trans rfl, (blk_cell BK675.out 1).trans rfl⟩ (fun hHeld => ?_)
       clear hK K
       refine norm_ (a' := ?_) ?_ ?_
       rotate_left
       ·show Act.put _ (some 42) _ = _
        simp only [Act.put, List.setIfInBounds_toArray, List.set_cons_zero, List.set_cons_succ, i64_w, i32_w]
        rfl
       refine one_ (i := 7) (N := some 46) #[true, true, true, true, true, true, true, true, false, true, false] rfl rfl (one_of HT_.out (by kernel_rfl)) (by decide) (fun K hK => ?_)
       refine goes_ Try.func56 (by kernel_rfl) rfl #[.int .i64 a1_0, .int .u64 (IntKind.u64.wrap (Int.tdiv (IntKind.u64.wrap (a0_1)) t679))] (by rfl) rfl rfl (by (try simp only [List.map_toArray, List.map_cons, List.map_nil]); first | done | rfl | (simp only [List.length_drop, List.length_take]; rfl)) ?_
       with_reducible refine (ratio_times.calls a1_0 (IntKind.u64.wrap (Int.tdiv (IntKind.u64.wrap (a0_1)) t679)) t683 t684 t685 _ A28.out).mono ?_
       rintro e w40 ⟨rfl, hb⟩
       refine ⟨_, rfl, ?_⟩
       have n0_ := kb BK674 hb
       have n1_ := kb BK675 hb
       have n2_ := kb BK676 hb
       have n3_ := kb BK689 hb
       have n4_ := wb HB hb
       clear BK674
       clear BK675
       clear BK676
       clear BK689
       clear HB
       have BK674 := n0_
       have BK675 := n1_
       have BK676 := n2_
       have BK689 := n3_
       have HB := n4_
       clear n0_ n1_ n2_ n3_ n4_
       (try clear hb)
       (try clear hb2)
       (try clear hk)
       (try clear hi)
       refine hK.out _ _ ⟨(blk_cell BK674.out 0).trans rfl, (blk_cell BK674.out 1).trans rfl, (blk_cell BK675.out 0).trans rfl, (blk_cell BK675.out 1).trans rfl⟩ (fun hHeld => ?_)
       clear hK K
       refine norm_ (a' := ?_) ?_ ?_
       rotate_left
       ·show Act.put _ (some 46) _ = _
        simp only [Act.put, List.setIfInBounds_toArray, List.set_cons_zero, List.set_cons_succ, i64_w, i32_w]
        rfl
       refine one_ (i := 8) (N := some 47) #[true, true, true, true, true, true, true, true, true, true, false] rfl rfl (one_of HT_.out (by kernel_rfl)) (by decide) (fun K hK => ?_)
       refine goes_ Try.func62 (by kernel_rfl) rfl #[.agg #[.bool t680, .int .u64 t681, .int .u64 t682], .agg #[.bool t683, .int .u64 t684, .int .u64 t685]] (by rfl) rfl rfl (by (try simp only [List.map_toArray, List.map_cons, List.map_nil]); first | done | rfl | (simp only [List.length_drop, List.length_take]; rfl)) ?_
       with_reducible refine (ratio_wide_plus.calls kj2 t680 t681 t682 t683 t684 t685 t686 t687 t688 _ A29.out).mono ?_
       rintro e w41 ⟨rfl, hb⟩
       refine ⟨_, rfl, ?_⟩
       have n0_ := kb BK674 hb
       have n1_ := kb BK675 hb
       have n2_ := kb BK676 hb
       have n3_ := kb BK689 hb
       have n4_ := wb HB hb
       clear BK674
       clear BK675
       clear BK676
       clear BK689
       clear HB
       have BK674 := n0_
       have BK675 := n1_
       have BK676 := n2_
       have BK689 := n3_
       have HB := n4_
       clear n0_ n1_ n2_ n3_ n4_
       (try clear hb)
       (try clear hb2)
       (try clear hk)
       (try clear hi)
       refine hK.out _ _ ⟨(blk_cell BK674.out 0).trans rfl, (blk_cell BK674.out 1).trans rfl, (blk_cell BK675.out 0).trans rfl, (blk_cell BK675.out 1).trans rfl⟩ (fun hHeld => ?_)
       clear hK K
       refine norm_ (a' := ?_) ?_ ?_
       rotate_left
       ·show Act.put _ (some 47) _ = _
        simp only [Act.put, List.setIfInBounds_toArray, List.set_cons_zero, List.set_cons_succ, i64_w, i32_w]
        rfl
       exact norm_ (by simp only [putAll, Act.put, List.setIfInBounds_toArray, List.set_cons_zero, List.set_cons_succ]) (hCont (gb689) _ ⟨hHeld, (bq BK674), (bq BK675), (bq BK676), (bq BK689), GW689.out, GE689.out, NB674_689.out, NB689_674.out, NB675_689.out, NB689_675.out, NB676_689.out, NB689_676.out, (bw HB)⟩)
     rintro gb689 w42 ⟨hS_, h0_, h1_, h2_, h3_, h4_, h5_, h6_, h7_, h8_, h9_, h10_, h11_, h12_⟩
     have n0_ : Aside0 (w42.heap[gb674]? = some (.cells #[.int .i64 a0_0, .int .i64 a0_1] 35 (0, 0))) := ⟨h0_⟩
     have n1_ : Aside0 (w42.heap[gb675]? = some (.cells #[.int .i64 a1_0, .int .i64 a1_1] 35 (0, 0))) := ⟨h1_⟩
     have n2_ : Aside0 (w42.heap[gb676]? = some (.cells #[.int .i64 0, .int .i64 0] 35 (0, 0))) := ⟨h2_⟩
     have n3_ : Aside0 (w42.heap[gb689]? = some (.cells #[.bool false, .int .u64 0, .int .u64 0] 58 (0, 0))) := ⟨h3_⟩
     have n4_ : Aside0 (w.heap.size ≤ gb689) := ⟨h4_⟩
     have n5_ : Aside0 (w.heap.size ≤ gb689) := ⟨h5_⟩
     have n6_ : Aside0 (gb674 ≠ gb689) := ⟨h6_⟩
     have n7_ : Aside0 (gb689 ≠ gb674) := ⟨h7_⟩
     have n8_ : Aside0 (gb675 ≠ gb689) := ⟨h8_⟩
     have n9_ : Aside0 (gb689 ≠ gb675) := ⟨h9_⟩
     have n10_ : Aside0 (gb676 ≠ gb689) := ⟨h10_⟩
     have n11_ : Aside0 (gb689 ≠ gb676) := ⟨h11_⟩
     have n12_ : Aside0 (Below w.heap.size w w42) := ⟨h12_⟩
     clear BK674
     clear BK675
     clear BK676
     clear HB
     clear h0_ h1_ h2_ h3_ h4_ h5_ h6_ h7_ h8_ h9_ h10_ h11_ h12_
     have BK674 := n0_
     have BK675 := n1_
     have BK676 := n2_
     have BK689 := n3_
     have GW689 := n4_
     have GE689 := n5_
     have NB674_689 := n6_
     have NB689_674 := n7_
     have NB675_689 := n8_
     have NB689_675 := n9_
     have NB676_689 := n10_
     have NB689_676 := n11_
     have HB := n12_
     clear n0_ n1_ n2_ n3_ n4_ n5_ n6_ n7_ n8_ n9_ n10_ n11_ n12_
     have hHeld : w42.cell? ⟨gb674, 0, none⟩ = some (.int .i64 a0_0) ∧ w42.cell? ⟨gb674, 1, none⟩ = some (.int .i64 a0_1) ∧ w42.cell? ⟨gb675, 0, none⟩ = some (.int .i64 a1_0) ∧ w42.cell? ⟨gb675, 1, none⟩ = some (.int .i64 a1_1) := hS_
     refine norm_ (a' := ?_) ?_ ?_
     rotate_left
     ·simp only [putAll, Act.put, List.setIfInBounds_toArray, List.set_cons_zero, List.set_cons_succ]
      rfl
     refine one_ (i := 10) (N := none) #[true, true, true, true, true, true, true, true, true, true, true] rfl rfl (one_of HT_.out (by kernel_rfl)) (by decide) (fun K hK => ?_)
     have hs43 : w42.cell? ⟨gb689, 0, none⟩ = some (.bool false) := (blk_cell BK689.out 0).trans rfl
     have hfs43 := blk_frozen BK689.out 0
     have hns43_0 := NB674_689.out
     have hns43_1 := NB675_689.out
     have hns43_2 := NB676_689.out
     have hms43_0 := NB689_674.out
     have hms43_1 := NB689_675.out
     have hms43_2 := NB689_676.out
     have hs44 : w42.cell? ⟨gb689, 1, none⟩ = some (.int .u64 0) := (blk_cell BK689.out 1).trans rfl
     have hfs44 := blk_frozen BK689.out 1
     have hns44_0 := NB674_689.out
     have hns44_1 := NB675_689.out
     have hns44_2 := NB676_689.out
     have hms44_0 := NB689_674.out
     have hms44_1 := NB689_675.out
     have hms44_2 := NB689_676.out
     have hs45 : w42.cell? ⟨gb689, 2, none⟩ = some (.int .u64 0) := (blk_cell BK689.out 2).trans rfl
     have hfs45 := blk_frozen BK689.out 2
     have hns45_0 := NB674_689.out
     have hns45_1 := NB675_689.out
     have hns45_2 := NB676_689.out
     have hms45_0 := NB689_674.out
     have hms45_1 := NB689_675.out
     have hms45_2 := NB689_676.out
     refine skip_ (w1 := ?_) (by rfl) rfl ?_ ?_
     rotate_left
     ·go_simp
      rfl
     refine hK.out _ _ ⟨((cell_far (p := ⟨gb689, _, none⟩) NB674_689.out _).trans (((cell_far (p := ⟨gb689, _, none⟩) NB674_689.out _).trans (((cell_far (p := ⟨gb689, _, none⟩) NB674_689.out _).trans (hHeld.1)))))), ((cell_far (p := ⟨gb689, _, none⟩) NB674_689.out _).trans (((cell_far (p := ⟨gb689, _, none⟩) NB674_689.out _).trans (((cell_far (p := ⟨gb689, _, none⟩) NB674_689.out _).trans (hHeld.2.1)))))), ((cell_far (p := ⟨gb689, _, none⟩) NB675_689.out _).trans (((cell_far (p := ⟨gb689, _, none⟩) NB675_689.out _).trans (((cell_far (p := ⟨gb689, _, none⟩) NB675_689.out _).trans (hHeld.2.2.1)))))), ((cell_far (p := ⟨gb689, _, none⟩) NB675_689.out _).trans (((cell_far (p := ⟨gb689, _, none⟩) NB675_689.out _).trans (((cell_far (p := ⟨gb689, _, none⟩) NB675_689.out _).trans (hHeld.2.2.2))))))⟩ (fun hHeld => ?_)
     clear hK K
     refine done_ (done_of HT_.out (by kernel_rfl)) ?_
     go_upto_region 6 with (fail)
     go_cut [55] (fun v55 wc => ∃ (kq : Nat) (x55_29 : Bool), v55 = .bool x55_29 ∧ Aside0 (ratio_Add.j1 kq t679 (IntKind.u64.wrap (Int.tdiv (IntKind.u64.wrap (a0_1)) t679)) (IntKind.u64.wrap (Int.tdiv (IntKind.u64.wrap (a1_1)) t679)) x55_29 t686 t687 t688 = some (r1, r2, r3)) ∧ Aside0 (kq ≤ kj2) ∧ Aside0 (wc.heap[gb674]? = some (.cells #[.int .i64 a0_0, .int .i64 a0_1] 35 (0, 0))) ∧ Aside0 (wc.heap[gb675]? = some (.cells #[.int .i64 a1_0, .int .i64 a1_1] 35 (0, 0))) ∧ Aside0 (wc.heap[gb676]? = some (.cells #[.int .i64 0, .int .i64 0] 35 (0, 0))) ∧ Aside0 (wc.heap[gb689]? = some (.cells #[.bool t686, .int .u64 t687, .int .u64 t688] 58 (0, 0))) ∧ Aside0 (Below w.heap.size w wc))
     case first =>
      have H := HC30.out
      clear HC30
      by_cases c46 : t687 = 0
      ·rw [if_pos c46] at H
       have c46b0 : (t687 == 0) = true := beq_iff_eq.mpr c46
       have c46b1 : (t687 != 0) = false := bne_eq_false_iff_eq.mpr c46
       clear c46
       (first | rw [c46b0] | (simp only [i64_w, i32_w]; rw [c46b0]) | skip)
       have H' := Aside0.mk H
       clear H
       obtain ⟨hnb47, hnc47⟩ := n2 NB689_674
       obtain ⟨hnb48, hnc48⟩ := n2 NB689_675
       obtain ⟨hnb49, hnc49⟩ := n2 NB689_676
       have hcz50_0 : w42.cell? ⟨gb689, 0, none⟩ = some (.bool false) := (blk_cell BK689.out 0).trans rfl
       have hcz50_1 : w42.cell? ⟨gb689, 1, none⟩ = some (.int .u64 0) := (blk_cell BK689.out 1).trans rfl
       have hcz50_2 : w42.cell? ⟨gb689, 2, none⟩ = some (.int .u64 0) := (blk_cell BK689.out 2).trans rfl
       have hfz50_0 := blk_frozen BK689.out 0
       have hfz50_1 := blk_frozen BK689.out 1
       have hfz50_2 := blk_frozen BK689.out 2
       go_wp2
       go_meet
       case rel => exact ⟨_, ((t688 == 0)), (by first | rfl | (simp; done) | (simp [*]; done)), H', ⟨by have := HJ2.out; first | omega | exact Nat.le_refl _⟩, ⟨bq BK674⟩, ⟨bq BK675⟩, ⟨bq BK676⟩, ⟨by refine pe ?_; refine blk_put (cs := #[.bool t686, .int .u64 t687, .int .u64 0]) ?_ 2 _ rfl; refine pe ?_; refine blk_put (cs := #[.bool t686, .int .u64 0, .int .u64 0]) ?_ 1 _ rfl; refine pe ?_; refine blk_put (cs := #[.bool false, .int .u64 0, .int .u64 0]) ?_ 0 _ rfl; refine pe ?_; exact BK689.out⟩, ⟨bw HB⟩⟩
      ·rw [if_neg c46] at H
       have c46b0 : (t687 == 0) = false := beq_eq_false_iff_ne.mpr c46
       have c46b1 : (t687 != 0) = true := bne_iff_ne.mpr c46
       (first | rw [c46b0] | (simp only [i64_w, i32_w]; rw [c46b0]) | skip)
       have H' := Aside0.mk H
       clear H
       obtain ⟨hnb51, hnc51⟩ := n2 NB689_674
       obtain ⟨hnb52, hnc52⟩ := n2 NB689_675
       obtain ⟨hnb53, hnc53⟩ := n2 NB689_676
       have hcz54_0 : w42.cell? ⟨gb689, 0, none⟩ = some (.bool false) := (blk_cell BK689.out 0).trans rfl
       have hcz54_1 : w42.cell? ⟨gb689, 1, none⟩ = some (.int .u64 0) := (blk_cell BK689.out 1).trans rfl
       have hcz54_2 : w42.cell? ⟨gb689, 2, none⟩ = some (.int .u64 0) := (blk_cell BK689.out 2).trans rfl
       have hfz54_0 := blk_frozen BK689.out 0
       have hfz54_1 := blk_frozen BK689.out 1
       have hfz54_2 := blk_frozen BK689.out 2
       go_wp2
       go_meet
       case rel => exact ⟨_, (false), (by first | rfl | (simp; done) | (simp [*]; done)), H', ⟨by have := HJ2.out; first | omega | exact Nat.le_refl _⟩, ⟨bq BK674⟩, ⟨bq BK675⟩, ⟨bq BK676⟩, ⟨by refine pe ?_; refine blk_put (cs := #[.bool t686, .int .u64 t687, .int .u64 0]) ?_ 2 _ rfl; refine pe ?_; refine blk_put (cs := #[.bool t686, .int .u64 0, .int .u64 0]) ?_ 1 _ rfl; refine pe ?_; refine blk_put (cs := #[.bool false, .int .u64 0, .int .u64 0]) ?_ 0 _ rfl; refine pe ?_; exact BK689.out⟩, ⟨bw HB⟩⟩
     case rest =>
      clear HC30
      try clear p2
      try clear c4
      try clear c5
      try clear c6
      try clear c46
      try clear c46b0
      try clear c46b1
      try clear c47
      try clear c48
      try clear c49
      try clear c51
      try clear c52
      try clear c53
      try clear hcz50_0
      try clear hcz50_1
      try clear hcz50_2
      try clear hcz54_0
      try clear hcz54_1
      try clear hcz54_2
      try clear hfz50_0
      try clear hfz50_1
      try clear hfz50_2
      try clear hfz54_0
      try clear hfz54_1
      try clear hfz54_2
      obtain ⟨kq, x55_29, rfl, HA, HJ29, BK674, BK675, BK676, BK689, HB⟩ := hcut
      cases kq with
      | zero => exact absurd HA.out (by simp [ratio_Add.j1])
      | succ kj29 =>
       have H := HA.out
       clear HA
       simp only [ratio_Add.j1] at H
       by_cases c55 : x55_29 = true
       ·subst c55
        have H1 : (some (0, 1, 0)) = some (r1, r2, r3) := by rw [if_pos rfl] at H; exact H
        clear H
        have H := H1
        clear H1
        simp only [Option.some.injEq, Prod.mk.injEq] at H
        obtain ⟨rfl, rfl, rfl⟩ := H
        obtain ⟨hnb56, hnc56⟩ := n2 NB676_674
        obtain ⟨hnb57, hnc57⟩ := n2 NB676_675
        obtain ⟨hnb58, hnc58⟩ := n2 NB676_689
        have hcz59_0 : wc.cell? ⟨gb676, 0, none⟩ = some (.int .i64 0) := (blk_cell BK676.out 0).trans rfl
        have hcz59_1 : wc.cell? ⟨gb676, 1, none⟩ = some (.int .i64 0) := (blk_cell BK676.out 1).trans rfl
        have hfz59_0 := blk_frozen BK676.out 0
        have hfz59_1 := blk_frozen BK676.out 1
        go_wp2
        refine bodyPost_ret (results_ct rfl _ _ gb676 35 #[.int .i64 0, .int .i64 1] (0, 0) _ rfl (by refine pe ?_; refine blk_put (cs := #[.int .i64 0, .int .i64 0]) ?_ 1 _ rfl; refine pe ?_; refine blk_put (cs := #[.int .i64 0, .int .i64 0]) ?_ 0 _ rfl; refine pe ?_; exact BK676.out) Try.underlying35 rfl (by kernel_rfl)) rfl ?_
        exact ⟨by first | rfl | (simp [errW_none, errW_some] <;> rfl) | (simp [*, errW_none, errW_some] <;> rfl), bw HB⟩
       ·replace c55 := Bool.eq_false_iff.mpr c55
        subst c55
        have H1 : ((bits_Rem64.f kj29 t687 t688 t679).bind fun t690 => ((ratio_gcd.f kj29 t679 t690).bind fun t691 => (if t691 = 0 then (none) else ((bits_Mul64.f (IntKind.u64.wrap (Int.tdiv t679 t691)) (IntKind.u64.wrap (Int.tdiv (IntKind.u64.wrap (a0_1)) t679))).bind fun bt692 => (if bt692.1 = 0 then ((bits_Mul64.f bt692.2 (IntKind.u64.wrap (Int.tdiv (IntKind.u64.wrap (a1_1)) t679))).bind fun bt694 => (if bt694.1 = 0 then ((ratio_wide_over.f kj29 t686 t687 t688 t691).bind fun bt696 => ((ratio_lowest.f kj29 bt696.1 bt696.2.1 bt696.2.2 bt694.2).bind fun bt699 => (some (bt699.1, bt699.2.1, bt699.2.2)))) else (some (0, 0, 6)))) else (some (0, 0, 6))))))) = some (r1, r2, r3) := by rw [if_neg (show ¬ (false = true) by decide)] at H; exact H
        clear H
        have H := H1
        clear H1
        replace H := Option.bind_eq_some_iff.mp H
        obtain ⟨t690, A600, H⟩ := H
        replace H : ((ratio_gcd.f kj29 t679 t690).bind fun t691 => (if t691 = 0 then (none) else ((bits_Mul64.f (IntKind.u64.wrap (Int.tdiv t679 t691)) (IntKind.u64.wrap (Int.tdiv (IntKind.u64.wrap (a0_1)) t679))).bind fun bt692 => (if bt692.1 = 0 then ((bits_Mul64.f bt692.2 (IntKind.u64.wrap (Int.tdiv (IntKind.u64.wrap (a1_1)) t679))).bind fun bt694 => (if bt694.1 = 0 then ((ratio_wide_over.f kj29 t686 t687 t688 t691).bind fun bt696 => ((ratio_lowest.f kj29 bt696.1 bt696.2.1 bt696.2.2 bt694.2).bind fun bt699 => (some (bt699.1, bt699.2.1, bt699.2.2)))) else (some (0, 0, 6)))) else (some (0, 0, 6)))))) = some (r1, r2, r3) := H
        have A60 := Aside0.mk A600
        clear A600
        replace H := Option.bind_eq_some_iff.mp H
        obtain ⟨t691, A610, H⟩ := H
        replace H : (if t691 = 0 then (none) else ((bits_Mul64.f (IntKind.u64.wrap (Int.tdiv t679 t691)) (IntKind.u64.wrap (Int.tdiv (IntKind.u64.wrap (a0_1)) t679))).bind fun bt692 => (if bt692.1 = 0 then ((bits_Mul64.f bt692.2 (IntKind.u64.wrap (Int.tdiv (IntKind.u64.wrap (a1_1)) t679))).bind fun bt694 => (if bt694.1 = 0 then ((ratio_wide_over.f kj29 t686 t687 t688 t691).bind fun bt696 => ((ratio_lowest.f kj29 bt696.1 bt696.2.1 bt696.2.2 bt694.2).bind fun bt699 => (some (bt699.1, bt699.2.1, bt699.2.2)))) else (some (0, 0, 6)))) else (some (0, 0, 6))))) = some (r1, r2, r3) := H
        have A61 := Aside0.mk A610
        clear A610
        by_cases c62 : t691 = 0
        ·rw [if_pos c62] at H
         exact absurd H (by simp)
        ·rw [if_neg c62] at H
         have c62b0 : (t691 == 0) = false := beq_eq_false_iff_ne.mpr c62
         have c62b1 : (t691 != 0) = true := bne_iff_ne.mpr c62
         replace H := Option.bind_eq_some_iff.mp H
         obtain ⟨⟨t692, t693⟩, A630, H⟩ := H
         replace H : (if t692 = 0 then ((bits_Mul64.f t693 (IntKind.u64.wrap (Int.tdiv (IntKind.u64.wrap (a1_1)) t679))).bind fun bt694 => (if bt694.1 = 0 then ((ratio_wide_over.f kj29 t686 t687 t688 t691).bind fun bt696 => ((ratio_lowest.f kj29 bt696.1 bt696.2.1 bt696.2.2 bt694.2).bind fun bt699 => (some (bt699.1, bt699.2.1, bt699.2.2)))) else (some (0, 0, 6)))) else (some (0, 0, 6))) = some (r1, r2, r3) := H
         have A63 := Aside0.mk A630
         clear A630
         have HC64 := Aside0.mk H
         clear H
         obtain ⟨hnb65, hnc65⟩ := n2 NB689_674
         obtain ⟨hnb66, hnc66⟩ := n2 NB689_675
         obtain ⟨hnb67, hnc67⟩ := n2 NB689_676
         have hcz68_0 : wc.cell? ⟨gb689, 0, none⟩ = some (.bool t686) := (blk_cell BK689.out 0).trans rfl
         have hcz68_1 : wc.cell? ⟨gb689, 1, none⟩ = some (.int .u64 t687) := (blk_cell BK689.out 1).trans rfl
         have hcz68_2 : wc.cell? ⟨gb689, 2, none⟩ = some (.int .u64 t688) := (blk_cell BK689.out 2).trans rfl
         have hfz68_0 := blk_frozen BK689.out 0
         have hfz68_1 := blk_frozen BK689.out 1
         have hfz68_2 := blk_frozen BK689.out 2
         go_upto_if 74 with (first | ((with_reducible refine gate_callee (f := 64) rfl ?_); refine goesL_ (some 63) rfl rfl Try.func64 (by kernel_rfl) rfl #[.int .u64 t687, .int .u64 t688, .int .u64 t679] rfl (by (try simp only [List.map_toArray, List.map_cons, List.map_nil]); first | done | rfl | (simp only [List.length_drop, List.length_take]; rfl)) ?_; (with_reducible refine (bits_Rem64.calls kj29 t687 t688 t679 t690 _ A60.out).mono ?_); rintro e w' ⟨rfl, ⟨nd, rfl⟩⟩; refine ⟨_, rfl, ?_⟩) | ((with_reducible refine gate_callee (f := 52) rfl ?_); refine goesL_ (some 64) rfl rfl Try.func52 (by kernel_rfl) rfl #[.int .u64 t679, .int .u64 t690] rfl (by (try simp only [List.map_toArray, List.map_cons, List.map_nil]); first | done | rfl | (simp only [List.length_drop, List.length_take]; rfl)) ?_; (with_reducible refine (ratio_gcd.calls kj29 t679 t690 t691 _ A61.out).mono ?_); rintro e w' ⟨rfl, ⟨nd, rfl⟩⟩; refine ⟨_, rfl, ?_⟩) | ((with_reducible refine gate_callee (f := 57) rfl ?_); refine goesL_ (some 70) rfl rfl Try.func57 (by kernel_rfl) rfl #[.int .u64 (IntKind.u64.wrap (Int.tdiv t679 t691)), .int .u64 (IntKind.u64.wrap (Int.tdiv (IntKind.u64.wrap (a0_1)) t679))] rfl (by (try simp only [List.map_toArray, List.map_cons, List.map_nil]); first | done | rfl | (simp only [List.length_drop, List.length_take]; rfl)) ?_; (with_reducible refine (bits_Mul64.calls (IntKind.u64.wrap (Int.tdiv t679 t691)) (IntKind.u64.wrap (Int.tdiv (IntKind.u64.wrap (a0_1)) t679)) t692 t693 _ A63.out).mono ?_); rintro e w' ⟨rfl, ⟨nd, rfl⟩⟩; refine ⟨_, rfl, ?_⟩))
         (try simp only [Act.put, List.setIfInBounds_toArray, List.set_cons_zero, List.set_cons_succ])
         have H := HC64.out
         clear HC64
         by_cases c69 : t692 = 0
         ·rw [if_pos c69] at H
          have c69b0 : (t692 == 0) = true := beq_iff_eq.mpr c69
          have c69b1 : (t692 != 0) = false := bne_eq_false_iff_eq.mpr c69
          clear c69
          (first | rw [c69b0] | (simp only [i64_w, i32_w]; rw [c69b0]) | skip)
          replace H := Option.bind_eq_some_iff.mp H
          obtain ⟨⟨t694, t695⟩, A700, H⟩ := H
          replace H : (if t694 = 0 then ((ratio_wide_over.f kj29 t686 t687 t688 t691).bind fun bt696 => ((ratio_lowest.f kj29 bt696.1 bt696.2.1 bt696.2.2 t695).bind fun bt699 => (some (bt699.1, bt699.2.1, bt699.2.2)))) else (some (0, 0, 6))) = some (r1, r2, r3) := H
          have A70 := Aside0.mk A700
          clear A700
          by_cases c71 : t694 = 0
          ·rw [if_pos c71] at H
           have c71b0 : (t694 == 0) = true := beq_iff_eq.mpr c71
           have c71b1 : (t694 != 0) = false := bne_eq_false_iff_eq.mpr c71
           clear c71
           replace H := Option.bind_eq_some_iff.mp H
           obtain ⟨⟨t696, t697, t698⟩, A720, H⟩ := H
           replace H : ((ratio_lowest.f kj29 t696 t697 t698 t695).bind fun bt699 => (some (bt699.1, bt699.2.1, bt699.2.2))) = some (r1, r2, r3) := H
           have A72 := Aside0.mk A720
           clear A720
           replace H := Option.bind_eq_some_iff.mp H
           obtain ⟨⟨t699, t700, t701⟩, A730, H⟩ := H
           replace H : (some (t699, t700, t701)) = some (r1, r2, r3) := H
           have A73 := Aside0.mk A730
           clear A730
           simp only [Option.some.injEq, Prod.mk.injEq] at H
           obtain ⟨rfl, rfl, rfl⟩ := H
           go_wp2_with (first | ((with_reducible refine gate_callee (f := 57) rfl ?_); refine goesL_ (some 79) rfl rfl Try.func57 (by kernel_rfl) rfl #[.int .u64 t693, .int .u64 (IntKind.u64.wrap (Int.tdiv (IntKind.u64.wrap (a1_1)) t679))] rfl (by (try simp only [List.map_toArray, List.map_cons, List.map_nil]); first | done | rfl | (simp only [List.length_drop, List.length_take]; rfl)) ?_; (with_reducible refine (bits_Mul64.calls t693 (IntKind.u64.wrap (Int.tdiv (IntKind.u64.wrap (a1_1)) t679)) t694 t695 _ A70.out).mono ?_); rintro e w' ⟨rfl, ⟨nd, rfl⟩⟩; refine ⟨_, rfl, ?_⟩; (try (rw [drewN_self wc]; generalize hq_ : World.drewN wc _ = wc; replace BK674 : Aside0 (wc.heap[gb674]? = some (.cells #[.int .i64 a0_0, .int .i64 a0_1] 35 (0, 0))) := ⟨by rw [← hq_]; exact (bq BK674)⟩; replace BK675 : Aside0 (wc.heap[gb675]? = some (.cells #[.int .i64 a1_0, .int .i64 a1_1] 35 (0, 0))) := ⟨by rw [← hq_]; exact (bq BK675)⟩; replace BK676 : Aside0 (wc.heap[gb676]? = some (.cells #[.int .i64 0, .int .i64 0] 35 (0, 0))) := ⟨by rw [← hq_]; exact (bq BK676)⟩; replace BK689 : Aside0 (wc.heap[gb689]? = some (.cells #[.bool t686, .int .u64 t687, .int .u64 t688] 58 (0, 0))) := ⟨by rw [← hq_]; exact (bq BK689)⟩; replace HB : Aside0 (Below w.heap.size w wc) := ⟨by rw [← hq_]; exact (bw HB)⟩; clear hq_)); obtain ⟨hnb74, hnc74⟩ := n2 NB689_674; obtain ⟨hnb75, hnc75⟩ := n2 NB689_675; obtain ⟨hnb76, hnc76⟩ := n2 NB689_676; have hcz77_0 : wc.cell? ⟨gb689, 0, none⟩ = some (.bool t686) := (blk_cell BK689.out 0).trans rfl; have hcz77_1 : wc.cell? ⟨gb689, 1, none⟩ = some (.int .u64 t687) := (blk_cell BK689.out 1).trans rfl; have hcz77_2 : wc.cell? ⟨gb689, 2, none⟩ = some (.int .u64 t688) := (blk_cell BK689.out 2).trans rfl; have hfz77_0 := blk_frozen BK689.out 0; have hfz77_1 := blk_frozen BK689.out 1; have hfz77_2 := blk_frozen BK689.out 2) | ((with_reducible refine gate_callee (f := 65) rfl ?_); refine goesL_ (some 87) rfl rfl Try.func65 (by kernel_rfl) rfl #[.agg #[.bool t686, .int .u64 t687, .int .u64 t688], .int .u64 t691] rfl (by (try simp only [List.map_toArray, List.map_cons, List.map_nil]); first | done | rfl | (simp only [List.length_drop, List.length_take]; rfl)) ?_; (with_reducible refine (ratio_wide_over.calls kj29 t686 t687 t688 t691 t696 t697 t698 _ A72.out).mono ?_); rintro e w78 ⟨rfl, hb⟩; refine ⟨_, rfl, ?_⟩; replace BK674 := kb BK674 hb; replace BK675 := kb BK675 hb; replace BK676 := kb BK676 hb; replace BK689 := kb BK689 hb; replace HB := wb HB hb; (try clear hb); (try clear hb2); (try clear hk); (try clear hi)) | ((with_reducible refine gate_callee (f := 48) rfl ?_); refine goesL_ (some 89) rfl rfl Try.func48 (by kernel_rfl) rfl #[.agg #[.bool t696, .int .u64 t697, .int .u64 t698], .int .u64 t695] rfl (by (try simp only [List.map_toArray, List.map_cons, List.map_nil]); first | done | rfl | (simp only [List.length_drop, List.length_take]; rfl)) ?_; (with_reducible refine (ratio_lowest.calls kj29 t696 t697 t698 t695 t699 t700 t701 _ A73.out).mono ?_); rintro e w79 ⟨rfl, hb⟩; refine ⟨_, rfl, ?_⟩; replace BK674 := kb BK674 hb; replace BK675 := kb BK675 hb; replace BK676 := kb BK676 hb; replace BK689 := kb BK689 hb; replace HB := wb HB hb; (try clear hb); (try clear hb2); (try clear hk); (try clear hi); obtain ⟨hnb80, hnc80⟩ := n2 NB676_674; obtain ⟨hnb81, hnc81⟩ := n2 NB676_675; have hcz82_0 : w79.cell? ⟨gb676, 0, none⟩ = some (.int .i64 0) := (blk_cell BK676.out 0).trans rfl; have hcz82_1 : w79.cell? ⟨gb676, 1, none⟩ = some (.int .i64 0) := (blk_cell BK676.out 1).trans rfl; have hfz82_0 := blk_frozen BK676.out 0; have hfz82_1 := blk_frozen BK676.out 1))
           refine bodyPost_ret (results_ct rfl _ _ gb676 35 #[.int .i64 t699, .int .i64 t700] (0, 0) _ rfl (by refine pe ?_; refine blk_put (cs := #[.int .i64 t699, .int .i64 0]) ?_ 1 _ rfl; refine pe ?_; refine blk_put (cs := #[.int .i64 0, .int .i64 0]) ?_ 0 _ rfl; refine pe ?_; exact BK676.out) Try.underlying35 rfl (by kernel_rfl)) rfl ?_
           exact ⟨by first | rfl | (simp [errW_none, errW_some] <;> rfl) | (simp [*, errW_none, errW_some] <;> rfl), bw HB⟩
          ·rw [if_neg c71] at H
           have c71b0 : (t694 == 0) = false := beq_eq_false_iff_ne.mpr c71
           have c71b1 : (t694 != 0) = true := bne_iff_ne.mpr c71
           simp only [Option.some.injEq, Prod.mk.injEq] at H
           obtain ⟨rfl, rfl, rfl⟩ := H
           go_wp2_with (first | ((with_reducible refine gate_callee (f := 57) rfl ?_); refine goesL_ (some 79) rfl rfl Try.func57 (by kernel_rfl) rfl #[.int .u64 t693, .int .u64 (IntKind.u64.wrap (Int.tdiv (IntKind.u64.wrap (a1_1)) t679))] rfl (by (try simp only [List.map_toArray, List.map_cons, List.map_nil]); first | done | rfl | (simp only [List.length_drop, List.length_take]; rfl)) ?_; (with_reducible refine (bits_Mul64.calls t693 (IntKind.u64.wrap (Int.tdiv (IntKind.u64.wrap (a1_1)) t679)) t694 t695 _ A70.out).mono ?_); rintro e w' ⟨rfl, ⟨nd, rfl⟩⟩; refine ⟨_, rfl, ?_⟩; (try (rw [drewN_self wc]; generalize hq_ : World.drewN wc _ = wc; replace BK674 : Aside0 (wc.heap[gb674]? = some (.cells #[.int .i64 a0_0, .int .i64 a0_1] 35 (0, 0))) := ⟨by rw [← hq_]; exact (bq BK674)⟩; replace BK675 : Aside0 (wc.heap[gb675]? = some (.cells #[.int .i64 a1_0, .int .i64 a1_1] 35 (0, 0))) := ⟨by rw [← hq_]; exact (bq BK675)⟩; replace BK676 : Aside0 (wc.heap[gb676]? = some (.cells #[.int .i64 0, .int .i64 0] 35 (0, 0))) := ⟨by rw [← hq_]; exact (bq BK676)⟩; replace BK689 : Aside0 (wc.heap[gb689]? = some (.cells #[.bool t686, .int .u64 t687, .int .u64 t688] 58 (0, 0))) := ⟨by rw [← hq_]; exact (bq BK689)⟩; replace HB : Aside0 (Below w.heap.size w wc) := ⟨by rw [← hq_]; exact (bw HB)⟩; clear hq_)); obtain ⟨hnb83, hnc83⟩ := n2 NB676_674; obtain ⟨hnb84, hnc84⟩ := n2 NB676_675; obtain ⟨hnb85, hnc85⟩ := n2 NB676_689; have hcz86_0 : wc.cell? ⟨gb676, 0, none⟩ = some (.int .i64 0) := (blk_cell BK676.out 0).trans rfl; have hcz86_1 : wc.cell? ⟨gb676, 1, none⟩ = some (.int .i64 0) := (blk_cell BK676.out 1).trans rfl; have hfz86_0 := blk_frozen BK676.out 0; have hfz86_1 := blk_frozen BK676.out 1))
           refine bodyPost_ret (results_ct rfl _ _ gb676 35 #[.int .i64 0, .int .i64 0] (0, 0) _ rfl (by refine pe ?_; refine blk_put (cs := #[.int .i64 0, .int .i64 0]) ?_ 1 _ rfl; refine pe ?_; refine blk_put (cs := #[.int .i64 0, .int .i64 0]) ?_ 0 _ rfl; refine pe ?_; exact BK676.out) Try.underlying35 rfl (by kernel_rfl)) rfl ?_
           exact ⟨by first | rfl | (simp [errW_none, errW_some] <;> rfl) | (simp [*, errW_none, errW_some] <;> rfl), bw HB⟩
         ·rw [if_neg c69] at H
          have c69b0 : (t692 == 0) = false := beq_eq_false_iff_ne.mpr c69
          have c69b1 : (t692 != 0) = true := bne_iff_ne.mpr c69
          (first | rw [c69b0] | (simp only [i64_w, i32_w]; rw [c69b0]) | skip)
          simp only [Option.some.injEq, Prod.mk.injEq] at H
          obtain ⟨rfl, rfl, rfl⟩ := H
          obtain ⟨hnb87, hnc87⟩ := n2 NB676_674
          obtain ⟨hnb88, hnc88⟩ := n2 NB676_675
          obtain ⟨hnb89, hnc89⟩ := n2 NB676_689
          have hcz90_0 : wc.cell? ⟨gb676, 0, none⟩ = some (.int .i64 0) := (blk_cell BK676.out 0).trans rfl
          have hcz90_1 : wc.cell? ⟨gb676, 1, none⟩ = some (.int .i64 0) := (blk_cell BK676.out 1).trans rfl
          have hfz90_0 := blk_frozen BK676.out 0
          have hfz90_1 := blk_frozen BK676.out 1
          go_wp2
          refine bodyPost_ret (results_ct rfl _ _ gb676 35 #[.int .i64 0, .int .i64 0] (0, 0) _ rfl (by refine pe ?_; refine blk_put (cs := #[.int .i64 0, .int .i64 0]) ?_ 1 _ rfl; refine pe ?_; refine blk_put (cs := #[.int .i64 0, .int .i64 0]) ?_ 0 _ rfl; refine pe ?_; exact BK676.out) Try.underlying35 rfl (by kernel_rfl)) rfl ?_
          exact ⟨by first | rfl | (simp [errW_none, errW_some] <;> rfl) | (simp [*, errW_none, errW_some] <;> rfl), bw HB⟩

end Go.Proofs.Ytcbohbeipgcfhaa.G
