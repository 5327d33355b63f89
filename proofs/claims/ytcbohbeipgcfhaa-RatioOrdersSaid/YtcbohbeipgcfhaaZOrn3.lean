/- Texts of this claim laid together: Gf57, Gf56, Gf59. -/
import Derived.Test.YtcbohbeipgcfhaaG0
import Derived.Test.YtcbohbeipgcfhaaZOrn2
-- Printed by gp.py (a program of this session's own, over the kit's printer) out of the translation; Lean checks it.
namespace Go.Proofs.Ytcbohbeipgcfhaa.G
open Go.Proofs.Ytcbohbeipgcfhaa.Given Go.Proofs.Ytcbohbeipgcfhaa.Short
open Go.RowKit Go.Proofs.YtcbohbeipgcfhaaW.PrintWords Go.Proofs.YtcbohbeipgcfhaaW.PrintLast Go.Proofs.YtcbohbeipgcfhaaW.PrintMore
attribute [local go_sem] max2_int min2_int max_two min_two max_three min_three max_four min_four   -- for this text's walks alone
set_option linter.unusedVariables false
set_option linter.unusedSimpArgs false

/-! ### bits_Mul64: function 57 -/
def bits_Mul64.f (a0 : Int) (a1 : Int) : Option (Int × Int) := some (IntKind.u64.wrap ((IntKind.u64.wrap ((IntKind.u64.wrap ((a0 / 4294967296) * (a1 / 4294967296))) + ((IntKind.u64.wrap ((IntKind.u64.wrap ((a0 / 4294967296) * (Go.bits .and .u64 a1 4294967295))) + ((IntKind.u64.wrap ((Go.bits .and .u64 a0 4294967295) * (Go.bits .and .u64 a1 4294967295))) / 4294967296))) / 4294967296))) + ((IntKind.u64.wrap ((Go.bits .and .u64 (IntKind.u64.wrap ((IntKind.u64.wrap ((a0 / 4294967296) * (Go.bits .and .u64 a1 4294967295))) + ((IntKind.u64.wrap ((Go.bits .and .u64 a0 4294967295) * (Go.bits .and .u64 a1 4294967295))) / 4294967296))) 4294967295) + (IntKind.u64.wrap ((Go.bits .and .u64 a0 4294967295) * (a1 / 4294967296))))) / 4294967296)), IntKind.u64.wrap (a0 * a1))
set_option maxHeartbeats 8000000 in
set_option maxRecDepth 100000 in
theorem bits_Mul64.calls (a0 : Int) (a1 : Int) (r1 : Int) (r2 : Int) (w : World) (h : bits_Mul64.f a0 a1 = some (r1, r2)) :
  Calls Try.prog 57 #[.int .u64 a0, .int .u64 a1] w fun e w' => e = .returned (.tuple #[.int .u64 r1, .int .u64 r2]) ∧ Drawn0 w w' := by
 have H : (some (IntKind.u64.wrap ((IntKind.u64.wrap ((IntKind.u64.wrap ((a0 / 4294967296) * (a1 / 4294967296))) + ((IntKind.u64.wrap ((IntKind.u64.wrap ((a0 / 4294967296) * (Go.bits .and .u64 a1 4294967295))) + ((IntKind.u64.wrap ((Go.bits .and .u64 a0 4294967295) * (Go.bits .and .u64 a1 4294967295))) / 4294967296))) / 4294967296))) + ((IntKind.u64.wrap ((Go.bits .and .u64 (IntKind.u64.wrap ((IntKind.u64.wrap ((a0 / 4294967296) * (Go.bits .and .u64 a1 4294967295))) + ((IntKind.u64.wrap ((Go.bits .and .u64 a0 4294967295) * (Go.bits .and .u64 a1 4294967295))) / 4294967296))) 4294967295) + (IntKind.u64.wrap ((Go.bits .and .u64 a0 4294967295) * (a1 / 4294967296))))) / 4294967296)), IntKind.u64.wrap (a0 * a1))) = some (r1, r2) := h
 clear h
 simp only [Option.some.injEq, Prod.mk.injEq] at H
 obtain ⟨rfl, rfl⟩ := H
 go_enter Try.func57, Try.ntmps57
 go_wp2
 go_ret2
 exact ⟨by first | rfl | (simp; done) | (simp [*]; done), by repeat (first | exact Drawn0.refl _ | apply Drawn0.step)⟩

end Go.Proofs.Ytcbohbeipgcfhaa.G

-- Printed by gp.py (a program of this session's own, over the kit's printer) out of the translation; Lean checks it.
namespace Go.Proofs.Ytcbohbeipgcfhaa.G
open Go.Proofs.Ytcbohbeipgcfhaa.Given Go.Proofs.Ytcbohbeipgcfhaa.Short
open Go.RowKit Go.Proofs.YtcbohbeipgcfhaaW.PrintWords Go.Proofs.YtcbohbeipgcfhaaW.PrintLast Go.Proofs.YtcbohbeipgcfhaaW.PrintMore
attribute [local go_sem] max2_int min2_int max_two min_two max_three min_three max_four min_four   -- for this text's walks alone
set_option linter.unusedVariables false
set_option linter.unusedSimpArgs false

/-! ### ratio_times: function 56 -/
def ratio_times.f (a0 : Int) (a1 : Int) : Option (Bool × Int × Int) := (ratio_abs.f a0).bind fun t345 => ((bits_Mul64.f t345 a1).bind fun bt346 => (some (decide (a0 < 0), bt346.1, bt346.2)))
set_option maxHeartbeats 8000000 in
set_option maxRecDepth 100000 in
theorem ratio_times.calls (a0 : Int) (a1 : Int) (r1 : Bool) (r2 : Int) (r3 : Int) (w : World) (h : ratio_times.f a0 a1 = some (r1, r2, r3)) :
  Calls Try.prog 56 #[.int .i64 a0, .int .u64 a1] w fun e w' => e = .returned (.agg #[.bool r1, .int .u64 r2, .int .u64 r3]) ∧ Below w.heap.size w w' := by
 have hu58 := Try.underlying58
 have HB := Aside0.mk (Below.refl w.heap.size w)
 have H : ((ratio_abs.f a0).bind fun t345 => ((bits_Mul64.f t345 a1).bind fun bt346 => (some (decide (a0 < 0), bt346.1, bt346.2)))) = some (r1, r2, r3) := h
 clear h
 replace H := Option.bind_eq_some_iff.mp H
 obtain ⟨t345, A30, H⟩ := H
 replace H : ((bits_Mul64.f t345 a1).bind fun bt346 => (some (decide (a0 < 0), bt346.1, bt346.2))) = some (r1, r2, r3) := H
 have A3 := Aside0.mk A30
 clear A30
 replace H := Option.bind_eq_some_iff.mp H
 obtain ⟨⟨t346, t347⟩, A40, H⟩ := H
 replace H : (some (decide (a0 < 0), t346, t347)) = some (r1, r2, r3) := H
 have A4 := Aside0.mk A40
 clear A40
 simp only [Option.some.injEq, Prod.mk.injEq] at H
 obtain ⟨rfl, rfl, rfl⟩ := H
 go_enter Try.func56, Try.ntmps56
 go_wp2_with (first | ((with_reducible refine gate_dst (N := 4) rfl ?_); refine box_event ?hg (N := 4) ?hd (cs := #[.bool false, .int .u64 0, .int .u64 0]) (t := 58) ?hr ?_; (case hd => rfl); (case hg => rfl); (case hr => first | (go_simp; done) | (go_simp; rfl)); intro gb344 hg w5 hbox hb; have BK344 := Aside0.mk (hbox); have GW344 := gs HB hg; have GE344 := gs HB hg; replace HB := wb HB hb; clear hb hbox hg) | ((with_reducible refine gate_callee (f := 49) rfl ?_); refine goesL_ (some 9) rfl rfl Try.func49 (by kernel_rfl) rfl #[.int .i64 a0] rfl (by (try simp only [List.map_toArray, List.map_cons, List.map_nil]); first | done | rfl | (simp only [List.length_drop, List.length_take]; rfl)) ?_; (with_reducible refine (ratio_abs.calls a0 t345 _ A3.out).mono ?_); rintro e w' ⟨rfl, ⟨nd, rfl⟩⟩; refine ⟨_, rfl, ?_⟩; (try (rw [drewN_self w5]; generalize hq_ : World.drewN w5 _ = w5; replace BK344 : Aside0 (w5.heap[gb344]? = some (.cells #[.bool false, .int .u64 0, .int .u64 0] 58 (0, 0))) := ⟨by rw [← hq_]; exact (bq BK344)⟩; replace HB : Aside0 (Below w.heap.size w w5) := ⟨by rw [← hq_]; exact (bw HB)⟩; clear hq_))) | ((with_reducible refine gate_callee (f := 57) rfl ?_); refine goesL_ (some 11) rfl rfl Try.func57 (by kernel_rfl) rfl #[.int .u64 t345, .int .u64 a1] rfl (by (try simp only [List.map_toArray, List.map_cons, List.map_nil]); first | done | rfl | (simp only [List.length_drop, List.length_take]; rfl)) ?_; (with_reducible refine (bits_Mul64.calls t345 a1 t346 t347 _ A4.out).mono ?_); rintro e w' ⟨rfl, ⟨nd, rfl⟩⟩; refine ⟨_, rfl, ?_⟩; (try (rw [drewN_self w5]; generalize hq_ : World.drewN w5 _ = w5; replace BK344 : Aside0 (w5.heap[gb344]? = some (.cells #[.bool false, .int .u64 0, .int .u64 0] 58 (0, 0))) := ⟨by rw [← hq_]; exact (bq BK344)⟩; replace HB : Aside0 (Below w.heap.size w w5) := ⟨by rw [← hq_]; exact (bw HB)⟩; clear hq_)); have hcz6_0 : w5.cell? ⟨gb344, 0, none⟩ = some (.bool false) := (blk_cell BK344.out 0).trans rfl; have hcz6_1 : w5.cell? ⟨gb344, 1, none⟩ = some (.int .u64 0) := (blk_cell BK344.out 1).trans rfl; have hcz6_2 : w5.cell? ⟨gb344, 2, none⟩ = some (.int .u64 0) := (blk_cell BK344.out 2).trans rfl; have hfz6_0 := blk_frozen BK344.out 0; have hfz6_1 := blk_frozen BK344.out 1; have hfz6_2 := blk_frozen BK344.out 2))
 refine bodyPost_ret (results_cell_row rfl _ _ gb344 58 #[.bool (decide (a0 < 0)), .int .u64 t346, .int .u64 t347] (0, 0) _ rfl (by refine pe ?_; refine blk_put (cs := #[.bool (decide (a0 < 0)), .int .u64 t346, .int .u64 0]) ?_ 2 _ rfl; refine pe ?_; refine blk_put (cs := #[.bool (decide (a0 < 0)), .int .u64 0, .int .u64 0]) ?_ 1 _ rfl; refine pe ?_; refine blk_put (cs := #[.bool false, .int .u64 0, .int .u64 0]) ?_ 0 _ rfl; refine pe ?_; exact BK344.out) Try.underlying58 rfl (by kernel_rfl)) rfl ?_
 exact ⟨by first | rfl | (simp [errW_none, errW_some] <;> rfl) | (simp [*, errW_none, errW_some] <;> rfl), bw HB⟩

end Go.Proofs.Ytcbohbeipgcfhaa.G

-- Printed by gp.py (a program of this session's own, over the kit's printer) out of the translation; Lean checks it.
namespace Go.Proofs.Ytcbohbeipgcfhaa.G
open Go.Proofs.Ytcbohbeipgcfhaa.Given Go.Proofs.Ytcbohbeipgcfhaa.Short
open Go.RowKit Go.Proofs.YtcbohbeipgcfhaaW.PrintWords Go.Proofs.YtcbohbeipgcfhaaW.PrintLast Go.Proofs.YtcbohbeipgcfhaaW.PrintMore
attribute [local go_sem] max2_int min2_int max_two min_two max_three min_three max_four min_four   -- for this text's walks alone
set_option linter.unusedVariables false
set_option linter.unusedSimpArgs false

/-! ### ratio_wide_compare: function 59 -/
mutual
def ratio_wide_compare.j0 : Nat → Bool → Bool → Int → Int → Bool → Int → Int → Option (Int)
 | 0, _, _, _, _, _, _, _ => none
 | k + 1, x5, x443000, x443001, x443002, x444000, x444001, x444002 => if x5 = true then (ratio_wide_compare.j1 k x5 x443000 x443001 x443002 x444000 x444001 x444002) else (if x443001 = x444001 then (ratio_wide_compare.j1 k (decide (x443002 < x444002)) x443000 x443001 x443002 x444000 x444001 x444002) else (ratio_wide_compare.j1 k false x443000 x443001 x443002 x444000 x444001 x444002))
def ratio_wide_compare.j1 : Nat → Bool → Bool → Int → Int → Bool → Int → Int → Option (Int)
 | 0, _, _, _, _, _, _, _ => none
 | k + 1, x5, x443000, x443001, x443002, x444000, x444001, x444002 => if x5 = true then (some (-1)) else (if x443001 = x444001 then (if x443002 = x444002 then (some 0) else (some 1)) else (some 1))
end
def ratio_wide_compare.f (k : Nat) (a0_0 : Bool) (a0_1 : Int) (a0_2 : Int) (a1_0 : Bool) (a1_1 : Int) (a1_2 : Int) : Option (Int) := if a0_1 = a1_1 then (ratio_wide_compare.j0 k false a0_0 a0_1 a0_2 a1_0 a1_1 a1_2) else (ratio_wide_compare.j0 k (decide (a0_1 < a1_1)) a0_0 a0_1 a0_2 a1_0 a1_1 a1_2)
theorem ratio_wide_compare.mono_l : ∀ k, (∀ y0 y1 y2 y3 y4 y5 y6, LeO (ratio_wide_compare.j0 k y0 y1 y2 y3 y4 y5 y6) (ratio_wide_compare.j0 (k + 1) y0 y1 y2 y3 y4 y5 y6)) ∧ (∀ y0 y1 y2 y3 y4 y5 y6, LeO (ratio_wide_compare.j1 k y0 y1 y2 y3 y4 y5 y6) (ratio_wide_compare.j1 (k + 1) y0 y1 y2 y3 y4 y5 y6))
 | 0 => ⟨fun _ _ _ _ _ _ _ r h => by simp [ratio_wide_compare.j0] at h, fun _ _ _ _ _ _ _ r h => by simp [ratio_wide_compare.j1] at h⟩
 | k + 1 => by
  obtain ⟨ih0, ih1⟩ := ratio_wide_compare.mono_l k
  refine ⟨?_, ?_⟩
  ·intro y0 y1 y2 y3 y4 y5 y6
   unfold ratio_wide_compare.j0
   repeat' first
   | (with_reducible exact ih0 _ _ _ _ _ _ _)
   | (with_reducible exact ih1 _ _ _ _ _ _ _)
   | (with_reducible exact LeO.refl _)
   | (with_reducible exact LeO.none _)
   | (with_reducible refine LeO.ite ?_ ?_)
   | (with_reducible refine LeO.bind ?_ (fun _ => ?_))
   | exact ih0 _ _ _ _ _ _ _
   | exact ih1 _ _ _ _ _ _ _
   | exact LeO.none _
   | refine LeO.ite ?_ ?_
   | refine LeO.bind ?_ (fun _ => ?_)
  ·intro y0 y1 y2 y3 y4 y5 y6
   unfold ratio_wide_compare.j1
   repeat' first
   | (with_reducible exact ih0 _ _ _ _ _ _ _)
   | (with_reducible exact ih1 _ _ _ _ _ _ _)
   | (with_reducible exact LeO.refl _)
   | (with_reducible exact LeO.none _)
   | (with_reducible refine LeO.ite ?_ ?_)
   | (with_reducible refine LeO.bind ?_ (fun _ => ?_))
   | exact ih0 _ _ _ _ _ _ _
   | exact ih1 _ _ _ _ _ _ _
   | exact LeO.none _
   | refine LeO.ite ?_ ?_
   | refine LeO.bind ?_ (fun _ => ?_)
theorem ratio_wide_compare.mono : ∀ a0 a1 a2 a3 a4 a5 k, LeO (ratio_wide_compare.f k a0 a1 a2 a3 a4 a5) (ratio_wide_compare.f (k + 1) a0 a1 a2 a3 a4 a5) := by
 intro a0 a1 a2 a3 a4 a5 k
 obtain ⟨ih0, ih1⟩ := ratio_wide_compare.mono_l k
 unfold ratio_wide_compare.f
 repeat' first
   | (with_reducible exact ih0 _ _ _ _ _ _ _)
   | (with_reducible exact ih1 _ _ _ _ _ _ _)
   | (with_reducible exact LeO.refl _)
   | (with_reducible exact LeO.none _)
   | (with_reducible refine LeO.ite ?_ ?_)
   | (with_reducible refine LeO.bind ?_ (fun _ => ?_))
   | exact ih0 _ _ _ _ _ _ _
   | exact ih1 _ _ _ _ _ _ _
   | exact LeO.none _
   | refine LeO.ite ?_ ?_
   | refine LeO.bind ?_ (fun _ => ?_)
set_option maxHeartbeats 8000000 in
set_option maxRecDepth 100000 in
theorem ratio_wide_compare.calls (k : Nat) (a0_0 : Bool) (a0_1 : Int) (a0_2 : Int) (a1_0 : Bool) (a1_1 : Int) (a1_2 : Int) (r : Int) (w : World) (h : ratio_wide_compare.f k a0_0 a0_1 a0_2 a1_0 a1_1 a1_2 = some r) :
  Calls Try.prog 59 #[.agg #[.bool a0_0, .int .u64 a0_1, .int .u64 a0_2], .agg #[.bool a1_0, .int .u64 a1_1, .int .u64 a1_2]] w fun e w' => e = .returned (.int .i64 r) ∧ Below w.heap.size w w' := by
 have hu58 := Try.underlying58
 have HB := Aside0.mk (Below.refl w.heap.size w)
 have H : (if a0_1 = a1_1 then (ratio_wide_compare.j0 k false a0_0 a0_1 a0_2 a1_0 a1_1 a1_2) else (ratio_wide_compare.j0 k (decide (a0_1 < a1_1)) a0_0 a0_1 a0_2 a1_0 a1_1 a1_2)) = some r := h
 clear h
 have HC3 := Aside0.mk H
 clear H
 go_enter Try.func59, Try.ntmps59
 go_upto_region 1 with (first | ((with_reducible refine gate_dst (N := 2) rfl ?_); refine box_event ?hg (N := 2) ?hd (cs := #[.bool a0_0, .int .u64 a0_1, .int .u64 a0_2]) (t := 58) ?hr ?_; (case hd => rfl); (case hg => rfl); (case hr => first | (go_simp; done) | (go_simp; rfl)); intro gb442 hg w4 hbox hb; have BK442 := Aside0.mk (hbox); have GW442 := gs HB hg; have GE442 := gs HB hg; replace HB := wb HB hb; clear hb hbox hg) | ((with_reducible refine gate_dst (N := 3) rfl ?_); refine box_event ?hg (N := 3) ?hd (cs := #[.bool a1_0, .int .u64 a1_1, .int .u64 a1_2]) (t := 58) ?hr ?_; (case hd => rfl); (case hg => rfl); (case hr => first | (go_simp; done) | (go_simp; rfl)); intro gb443 hg w5 hbox hb; have BK443 := Aside0.mk (hbox); have GW443 := gs HB hg; have GE443 := gs HB hg; have NB442_443 := nl BK442 hg; have NB443_442 := nr BK442 hg; replace BK442 := kb BK442 hb; replace HB := wb HB hb; clear hb hbox hg))
 (try simp only [Act.put, List.setIfInBounds_toArray, List.set_cons_zero, List.set_cons_succ])
 go_cut [5] (fun v5 wc => ∃ (kq : Nat) (x5_2 : Bool), v5 = .bool x5_2 ∧ Aside0 (ratio_wide_compare.j0 kq x5_2 a0_0 a0_1 a0_2 a1_0 a1_1 a1_2 = some r) ∧ Aside0 (kq ≤ k) ∧ Aside0 (wc.heap[gb442]? = some (.cells #[.bool a0_0, .int .u64 a0_1, .int .u64 a0_2] 58 (0, 0))) ∧ Aside0 (wc.heap[gb443]? = some (.cells #[.bool a1_0, .int .u64 a1_1, .int .u64 a1_2] 58 (0, 0))) ∧ Aside0 (Below w.heap.size w wc))
 case first =>
  have H := HC3.out
  clear HC3
  by_cases c6 : a0_1 = a1_1
  ·rw [if_pos c6] at H
   have c6b0 : (a0_1 == a1_1) = true := beq_iff_eq.mpr c6
   have c6b1 : (a0_1 != a1_1) = false := bne_eq_false_iff_eq.mpr c6
   clear c6
   (first | rw [c6b0] | (simp only [i64_w, i32_w]; rw [c6b0]) | skip)
   have H' := Aside0.mk H
   clear H
   obtain ⟨hnb7, hnc7⟩ := n2 NB442_443
   have hcz8_0 : w5.cell? ⟨gb442, 0, none⟩ = some (.bool a0_0) := (blk_cell BK442.out 0).trans rfl
   have hcz8_1 : w5.cell? ⟨gb442, 1, none⟩ = some (.int .u64 a0_1) := (blk_cell BK442.out 1).trans rfl
   have hcz8_2 : w5.cell? ⟨gb442, 2, none⟩ = some (.int .u64 a0_2) := (blk_cell BK442.out 2).trans rfl
   have hfz8_0 := blk_frozen BK442.out 0
   have hfz8_1 := blk_frozen BK442.out 1
   have hfz8_2 := blk_frozen BK442.out 2
   have hcz9_0 : w5.cell? ⟨gb443, 0, none⟩ = some (.bool a1_0) := (blk_cell BK443.out 0).trans rfl
   have hcz9_1 : w5.cell? ⟨gb443, 1, none⟩ = some (.int .u64 a1_1) := (blk_cell BK443.out 1).trans rfl
   have hcz9_2 : w5.cell? ⟨gb443, 2, none⟩ = some (.int .u64 a1_2) := (blk_cell BK443.out 2).trans rfl
   have hfz9_0 := blk_frozen BK443.out 0
   have hfz9_1 := blk_frozen BK443.out 1
   have hfz9_2 := blk_frozen BK443.out 2
   go_wp2
   go_meet
   case rel => exact ⟨_, (false), (by first | rfl | (simp; done) | (simp [*]; done)), H', ⟨by first | omega | exact Nat.le_refl _⟩, ⟨bq BK442⟩, ⟨bq BK443⟩, ⟨bw HB⟩⟩
  ·rw [if_neg c6] at H
   have c6b0 : (a0_1 == a1_1) = false := beq_eq_false_iff_ne.mpr c6
   have c6b1 : (a0_1 != a1_1) = true := bne_iff_ne.mpr c6
   (first | rw [c6b0] | (simp only [i64_w, i32_w]; rw [c6b0]) | skip)
   have H' := Aside0.mk H
   clear H
   obtain ⟨hnb10, hnc10⟩ := n2 NB442_443
   have hcz11_0 : w5.cell? ⟨gb442, 0, none⟩ = some (.bool a0_0) := (blk_cell BK442.out 0).trans rfl
   have hcz11_1 : w5.cell? ⟨gb442, 1, none⟩ = some (.int .u64 a0_1) := (blk_cell BK442.out 1).trans rfl
   have hcz11_2 : w5.cell? ⟨gb442, 2, none⟩ = some (.int .u64 a0_2) := (blk_cell BK442.out 2).trans rfl
   have hfz11_0 := blk_frozen BK442.out 0
   have hfz11_1 := blk_frozen BK442.out 1
   have hfz11_2 := blk_frozen BK442.out 2
   have hcz12_0 : w5.cell? ⟨gb443, 0, none⟩ = some (.bool a1_0) := (blk_cell BK443.out 0).trans rfl
   have hcz12_1 : w5.cell? ⟨gb443, 1, none⟩ = some (.int .u64 a1_1) := (blk_cell BK443.out 1).trans rfl
   have hcz12_2 : w5.cell? ⟨gb443, 2, none⟩ = some (.int .u64 a1_2) := (blk_cell BK443.out 2).trans rfl
   have hfz12_0 := blk_frozen BK443.out 0
   have hfz12_1 := blk_frozen BK443.out 1
   have hfz12_2 := blk_frozen BK443.out 2
   go_wp2
   go_meet
   case rel => exact ⟨_, (decide (a0_1 < a1_1)), (by first | rfl | (simp; done) | (simp [*]; done)), H', ⟨by first | omega | exact Nat.le_refl _⟩, ⟨bq BK442⟩, ⟨bq BK443⟩, ⟨bw HB⟩⟩
 case rest =>
  clear HC3
  try clear c1
  try clear p2
  try clear c5
  try clear c6
  try clear c6b0
  try clear c6b1
  try clear c7
  try clear c10
  try clear hcz11_0
  try clear hcz11_1
  try clear hcz11_2
  try clear hcz12_0
  try clear hcz12_1
  try clear hcz12_2
  try clear hcz8_0
  try clear hcz8_1
  try clear hcz8_2
  try clear hcz9_0
  try clear hcz9_1
  try clear hcz9_2
  try clear hfz11_0
  try clear hfz11_1
  try clear hfz11_2
  try clear hfz12_0
  try clear hfz12_1
  try clear hfz12_2
  try clear hfz8_0
  try clear hfz8_1
  try clear hfz8_2
  try clear hfz9_0
  try clear hfz9_1
  try clear hfz9_2
  obtain ⟨kq, x5_2, rfl, HA, HJ2, BK442, BK443, HB⟩ := hcut
  cases kq with
  | zero => exact absurd HA.out (by simp [ratio_wide_compare.j0])
  | succ kj2 =>
   have H := HA.out
   clear HA
   simp only [ratio_wide_compare.j0] at H
   have HC13 := Aside0.mk H
   clear H
   go_upto_if 5 with (fail)
   go_cut [5] (fun v5 wc => ∃ (kq : Nat) (x5_12 : Bool), v5 = .bool x5_12 ∧ Aside0 (ratio_wide_compare.j1 kq x5_12 a0_0 a0_1 a0_2 a1_0 a1_1 a1_2 = some r) ∧ Aside0 (kq ≤ kj2) ∧ Aside0 (wc.heap[gb442]? = some (.cells #[.bool a0_0, .int .u64 a0_1, .int .u64 a0_2] 58 (0, 0))) ∧ Aside0 (wc.heap[gb443]? = some (.cells #[.bool a1_0, .int .u64 a1_1, .int .u64 a1_2] 58 (0, 0))) ∧ Aside0 (Below w.heap.size w wc))
   case first =>
    have H := HC13.out
    clear HC13
    by_cases c14 : x5_2 = true
    ·subst c14
     have H1 : (ratio_wide_compare.j1 kj2 true a0_0 a0_1 a0_2 a1_0 a1_1 a1_2) = some r := by rw [if_pos rfl] at H; exact H
     clear H
     have H := H1
     clear H1
     have H' := Aside0.mk H
     clear H
     go_wp2
     go_meet
     case rel => exact ⟨_, (true), (by first | rfl | (simp; done) | (simp [*]; done)), H', ⟨by have := HJ2.out; first | omega | exact Nat.le_refl _⟩, ⟨bq BK442⟩, ⟨bq BK443⟩, ⟨bw HB⟩⟩
    ·replace c14 := Bool.eq_false_iff.mpr c14
     subst c14
     have H1 : (if a0_1 = a1_1 then (ratio_wide_compare.j1 kj2 (decide (a0_2 < a1_2)) a0_0 a0_1 a0_2 a1_0 a1_1 a1_2) else (ratio_wide_compare.j1 kj2 false a0_0 a0_1 a0_2 a1_0 a1_1 a1_2)) = some r := by rw [if_neg (show ¬ (false = true) by decide)] at H; exact H
     clear H
     have H := H1
     clear H1
     by_cases c15 : a0_1 = a1_1
     ·rw [if_pos c15] at H
      have c15b0 : (a0_1 == a1_1) = true := beq_iff_eq.mpr c15
      have c15b1 : (a0_1 != a1_1) = false := bne_eq_false_iff_eq.mpr c15
      clear c15
      (first | rw [c15b0] | (simp only [i64_w, i32_w]; rw [c15b0]) | skip)
      have H' := Aside0.mk H
      clear H
      obtain ⟨hnb16, hnc16⟩ := n2 NB442_443
      have hcz17_0 : wc.cell? ⟨gb442, 0, none⟩ = some (.bool a0_0) := (blk_cell BK442.out 0).trans rfl
      have hcz17_1 : wc.cell? ⟨gb442, 1, none⟩ = some (.int .u64 a0_1) := (blk_cell BK442.out 1).trans rfl
      have hcz17_2 : wc.cell? ⟨gb442, 2, none⟩ = some (.int .u64 a0_2) := (blk_cell BK442.out 2).trans rfl
      have hfz17_0 := blk_frozen BK442.out 0
      have hfz17_1 := blk_frozen BK442.out 1
      have hfz17_2 := blk_frozen BK442.out 2
      have hcz18_0 : wc.cell? ⟨gb443, 0, none⟩ = some (.bool a1_0) := (blk_cell BK443.out 0).trans rfl
      have hcz18_1 : wc.cell? ⟨gb443, 1, none⟩ = some (.int .u64 a1_1) := (blk_cell BK443.out 1).trans rfl
      have hcz18_2 : wc.cell? ⟨gb443, 2, none⟩ = some (.int .u64 a1_2) := (blk_cell BK443.out 2).trans rfl
      have hfz18_0 := blk_frozen BK443.out 0
      have hfz18_1 := blk_frozen BK443.out 1
      have hfz18_2 := blk_frozen BK443.out 2
      go_wp2
      go_meet
      case rel => exact ⟨_, (decide (a0_2 < a1_2)), (by first | rfl | (simp; done) | (simp [*]; done)), H', ⟨by have := HJ2.out; first | omega | exact Nat.le_refl _⟩, ⟨bq BK442⟩, ⟨bq BK443⟩, ⟨bw HB⟩⟩
     ·rw [if_neg c15] at H
      have c15b0 : (a0_1 == a1_1) = false := beq_eq_false_iff_ne.mpr c15
      have c15b1 : (a0_1 != a1_1) = true := bne_iff_ne.mpr c15
      (first | rw [c15b0] | (simp only [i64_w, i32_w]; rw [c15b0]) | skip)
      have H' := Aside0.mk H
      clear H
      obtain ⟨hnb19, hnc19⟩ := n2 NB442_443
      have hcz20_0 : wc.cell? ⟨gb442, 0, none⟩ = some (.bool a0_0) := (blk_cell BK442.out 0).trans rfl
      have hcz20_1 : wc.cell? ⟨gb442, 1, none⟩ = some (.int .u64 a0_1) := (blk_cell BK442.out 1).trans rfl
      have hcz20_2 : wc.cell? ⟨gb442, 2, none⟩ = some (.int .u64 a0_2) := (blk_cell BK442.out 2).trans rfl
      have hfz20_0 := blk_frozen BK442.out 0
      have hfz20_1 := blk_frozen BK442.out 1
      have hfz20_2 := blk_frozen BK442.out 2
      have hcz21_0 : wc.cell? ⟨gb443, 0, none⟩ = some (.bool a1_0) := (blk_cell BK443.out 0).trans rfl
      have hcz21_1 : wc.cell? ⟨gb443, 1, none⟩ = some (.int .u64 a1_1) := (blk_cell BK443.out 1).trans rfl
      have hcz21_2 : wc.cell? ⟨gb443, 2, none⟩ = some (.int .u64 a1_2) := (blk_cell BK443.out 2).trans rfl
      have hfz21_0 := blk_frozen BK443.out 0
      have hfz21_1 := blk_frozen BK443.out 1
      have hfz21_2 := blk_frozen BK443.out 2
      go_wp2
      go_meet
      case rel => exact ⟨_, (false), (by first | rfl | (simp; done) | (simp [*]; done)), H', ⟨by have := HJ2.out; first | omega | exact Nat.le_refl _⟩, ⟨bq BK442⟩, ⟨bq BK443⟩, ⟨bw HB⟩⟩
   case rest =>
    clear HC13
    try clear c1
    try clear p2
    try clear c5
    try clear c6
    try clear c6b0
    try clear c6b1
    try clear c7
    try clear c10
    try clear c14
    try clear c15
    try clear c15b0
    try clear c15b1
    try clear c16
    try clear c19
    try clear hcz11_0
    try clear hcz11_1
    try clear hcz11_2
    try clear hcz12_0
    try clear hcz12_1
    try clear hcz12_2
    try clear hcz17_0
    try clear hcz17_1
    try clear hcz17_2
    try clear hcz18_0
    try clear hcz18_1
    try clear hcz18_2
    try clear hcz20_0
    try clear hcz20_1
    try clear hcz20_2
    try clear hcz21_0
    try clear hcz21_1
    try clear hcz21_2
    try clear hcz8_0
    try clear hcz8_1
    try clear hcz8_2
    try clear hcz9_0
    try clear hcz9_1
    try clear hcz9_2
    try clear hfz11_0
    try clear hfz11_1
    try clear hfz11_2
    try clear hfz12_0
    try clear hfz12_1
    try clear hfz12_2
    try clear hfz17_0
    try clear hfz17_1
    try clear hfz17_2
    try clear hfz18_0
    try clear hfz18_1
    try clear hfz18_2
    try clear hfz20_0
    try clear hfz20_1
    try clear hfz20_2
    try clear hfz21_0
    try clear hfz21_1
    try clear hfz21_2
    try clear hfz8_0
    try clear hfz8_1
    try clear hfz8_2
    try clear hfz9_0
    try clear hfz9_1
    try clear hfz9_2
    try clear p2
    obtain ⟨kq, x5_12, rfl, HA, HJ12, BK442, BK443, HB⟩ := hcut
    cases kq with
    | zero => exact absurd HA.out (by simp [ratio_wide_compare.j1])
    | succ kj12 =>
     have H := HA.out
     clear HA
     simp only [ratio_wide_compare.j1] at H
     by_cases c22 : x5_12 = true
     ·subst c22
      have H1 : (some (-1)) = some r := by rw [if_pos rfl] at H; exact H
      clear H
      have H := H1
      clear H1
      obtain rfl := Option.some.inj H
      go_wp2
      go_ret
      exact ⟨by first | rfl | (simp [errW_none, errW_some] <;> rfl) | (simp [*, errW_none, errW_some] <;> rfl), bw HB⟩
     ·replace c22 := Bool.eq_false_iff.mpr c22
      subst c22
      have H1 : (if a0_1 = a1_1 then (if a0_2 = a1_2 then (some 0) else (some 1)) else (some 1)) = some r := by rw [if_neg (show ¬ (false = true) by decide)] at H; exact H
      clear H
      have H := H1
      clear H1
      by_cases c23 : a0_1 = a1_1
      ·rw [if_pos c23] at H
       have c23b0 : (a0_1 == a1_1) = true := beq_iff_eq.mpr c23
       have c23b1 : (a0_1 != a1_1) = false := bne_eq_false_iff_eq.mpr c23
       clear c23
       by_cases c24 : a0_2 = a1_2
       ·rw [if_pos c24] at H
        have c24b0 : (a0_2 == a1_2) = true := beq_iff_eq.mpr c24
        have c24b1 : (a0_2 != a1_2) = false := bne_eq_false_iff_eq.mpr c24
        clear c24
        obtain rfl := Option.some.inj H
        obtain ⟨hnb25, hnc25⟩ := n2 NB442_443
        have hcz26_0 : wc.cell? ⟨gb442, 0, none⟩ = some (.bool a0_0) := (blk_cell BK442.out 0).trans rfl
        have hcz26_1 : wc.cell? ⟨gb442, 1, none⟩ = some (.int .u64 a0_1) := (blk_cell BK442.out 1).trans rfl
        have hcz26_2 : wc.cell? ⟨gb442, 2, none⟩ = some (.int .u64 a0_2) := (blk_cell BK442.out 2).trans rfl
        have hfz26_0 := blk_frozen BK442.out 0
        have hfz26_1 := blk_frozen BK442.out 1
        have hfz26_2 := blk_frozen BK442.out 2
        have hcz27_0 : wc.cell? ⟨gb443, 0, none⟩ = some (.bool a1_0) := (blk_cell BK443.out 0).trans rfl
        have hcz27_1 : wc.cell? ⟨gb443, 1, none⟩ = some (.int .u64 a1_1) := (blk_cell BK443.out 1).trans rfl
        have hcz27_2 : wc.cell? ⟨gb443, 2, none⟩ = some (.int .u64 a1_2) := (blk_cell BK443.out 2).trans rfl
        have hfz27_0 := blk_frozen BK443.out 0
        have hfz27_1 := blk_frozen BK443.out 1
        have hfz27_2 := blk_frozen BK443.out 2
        go_wp2
        go_ret
        exact ⟨by first | rfl | (simp [errW_none, errW_some] <;> rfl) | (simp [*, errW_none, errW_some] <;> rfl), bw HB⟩
       ·rw [if_neg c24] at H
        have c24b0 : (a0_2 == a1_2) = false := beq_eq_false_iff_ne.mpr c24
        have c24b1 : (a0_2 != a1_2) = true := bne_iff_ne.mpr c24
        obtain rfl := Option.some.inj H
        obtain ⟨hnb28, hnc28⟩ := n2 NB442_443
        have hcz29_0 : wc.cell? ⟨gb442, 0, none⟩ = some (.bool a0_0) := (blk_cell BK442.out 0).trans rfl
        have hcz29_1 : wc.cell? ⟨gb442, 1, none⟩ = some (.int .u64 a0_1) := (blk_cell BK442.out 1).trans rfl
        have hcz29_2 : wc.cell? ⟨gb442, 2, none⟩ = some (.int .u64 a0_2) := (blk_cell BK442.out 2).trans rfl
        have hfz29_0 := blk_frozen BK442.out 0
        have hfz29_1 := blk_frozen BK442.out 1
        have hfz29_2 := blk_frozen BK442.out 2
        have hcz30_0 : wc.cell? ⟨gb443, 0, none⟩ = some (.bool a1_0) := (blk_cell BK443.out 0).trans rfl
        have hcz30_1 : wc.cell? ⟨gb443, 1, none⟩ = some (.int .u64 a1_1) := (blk_cell BK443.out 1).trans rfl
        have hcz30_2 : wc.cell? ⟨gb443, 2, none⟩ = some (.int .u64 a1_2) := (blk_cell BK443.out 2).trans rfl
        have hfz30_0 := blk_frozen BK443.out 0
        have hfz30_1 := blk_frozen BK443.out 1
        have hfz30_2 := blk_frozen BK443.out 2
        go_wp2
        go_ret
        exact ⟨by first | rfl | (simp [errW_none, errW_some] <;> rfl) | (simp [*, errW_none, errW_some] <;> rfl), bw HB⟩
      ·rw [if_neg c23] at H
       have c23b0 : (a0_1 == a1_1) = false := beq_eq_false_iff_ne.mpr c23
       have c23b1 : (a0_1 != a1_1) = true := bne_iff_ne.mpr c23
       obtain rfl := Option.some.inj H
       obtain ⟨hnb31, hnc31⟩ := n2 NB442_443
       have hcz32_0 : wc.cell? ⟨gb442, 0, none⟩ = some (.bool a0_0) := (blk_cell BK442.out 0).trans rfl
       have hcz32_1 : wc.cell? ⟨gb442, 1, none⟩ = some (.int .u64 a0_1) := (blk_cell BK442.out 1).trans rfl
       have hcz32_2 : wc.cell? ⟨gb442, 2, none⟩ = some (.int .u64 a0_2) := (blk_cell BK442.out 2).trans rfl
       have hfz32_0 := blk_frozen BK442.out 0
       have hfz32_1 := blk_frozen BK442.out 1
       have hfz32_2 := blk_frozen BK442.out 2
       have hcz33_0 : wc.cell? ⟨gb443, 0, none⟩ = some (.bool a1_0) := (blk_cell BK443.out 0).trans rfl
       have hcz33_1 : wc.cell? ⟨gb443, 1, none⟩ = some (.int .u64 a1_1) := (blk_cell BK443.out 1).trans rfl
       have hcz33_2 : wc.cell? ⟨gb443, 2, none⟩ = some (.int .u64 a1_2) := (blk_cell BK443.out 2).trans rfl
       have hfz33_0 := blk_frozen BK443.out 0
       have hfz33_1 := blk_frozen BK443.out 1
       have hfz33_2 := blk_frozen BK443.out 2
       go_wp2
       go_ret
       exact ⟨by first | rfl | (simp [errW_none, errW_some] <;> rfl) | (simp [*, errW_none, errW_some] <;> rfl), bw HB⟩

end Go.Proofs.Ytcbohbeipgcfhaa.G
