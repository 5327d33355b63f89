/- Texts of this claim laid together: Gf62. -/
import Derived.Test.YtcbohbeipgcfhaaG0
import Derived.Test.YtcbohbeipgcfhaaZOrn3
-- Printed by gp.py (a program of this session's own, over the kit's printer) out of the translation; Lean checks it.
namespace Go.Proofs.Ytcbohbeipgcfhaa.G
open Go.Proofs.Ytcbohbeipgcfhaa.Given Go.Proofs.Ytcbohbeipgcfhaa.Short
open Go.RowKit Go.Proofs.YtcbohbeipgcfhaaW.PrintWords Go.Proofs.YtcbohbeipgcfhaaW.PrintLast Go.Proofs.YtcbohbeipgcfhaaW.PrintMore
attribute [local go_sem] max2_int min2_int max_two min_two max_three min_three max_four min_four   -- for this text's walks alone
set_option linter.unusedVariables false
set_option linter.unusedSimpArgs false

/-! ### ratio_wide_plus: function 62 -/
def ratio_wide_plus.f (k : Nat) (a0_0 : Bool) (a0_1 : Int) (a0_2 : Int) (a1_0 : Bool) (a1_1 : Int) (a1_2 : Int) : Option (Bool × Int × Int) := if (a0_0 == a1_0) = true then ((bits_Add64.f a0_2 a1_2 0).bind fun bt540 => ((bits_Add64.f a0_1 a1_1 bt540.2).bind fun bt542 => (some (a0_0, bt542.1, bt540.1)))) else ((ratio_wide_compare.f k a0_0 a0_1 a0_2 a1_0 a1_1 a1_2).bind fun t544 => (if t544 < 0 then ((bits_Sub64.f a1_2 a0_2 0).bind fun bt545 => ((bits_Sub64.f a1_1 a0_1 bt545.2).bind fun bt547 => (some (a1_0, bt547.1, bt545.1)))) else ((bits_Sub64.f a0_2 a1_2 0).bind fun bt549 => ((bits_Sub64.f a0_1 a1_1 bt549.2).bind fun bt551 => (some (a0_0, bt551.1, bt549.1))))))
theorem ratio_wide_plus.mono : ∀ a0 a1 a2 a3 a4 a5 k, LeO (ratio_wide_plus.f k a0 a1 a2 a3 a4 a5) (ratio_wide_plus.f (k + 1) a0 a1 a2 a3 a4 a5) := by
 intro a0 a1 a2 a3 a4 a5 k
 unfold ratio_wide_plus.f
 repeat' first
   | (with_reducible exact ratio_wide_compare.mono _ _ _ _ _ _ _)
   | (with_reducible exact LeO.refl _)
   | (with_reducible exact LeO.none _)
   | (with_reducible refine LeO.ite ?_ ?_)
   | (with_reducible refine LeO.bind ?_ (fun _ => ?_))
   | exact ratio_wide_compare.mono _ _ _ _ _ _ _
   | exact LeO.none _
   | refine LeO.ite ?_ ?_
   | refine LeO.bind ?_ (fun _ => ?_)
set_option maxHeartbeats 8000000 in
set_option maxRecDepth 100000 in
theorem ratio_wide_plus.calls (k : Nat) (a0_0 : Bool) (a0_1 : Int) (a0_2 : Int) (a1_0 : Bool) (a1_1 : Int) (a1_2 : Int) (r1 : Bool) (r2 : Int) (r3 : Int) (w : World) (h : ratio_wide_plus.f k a0_0 a0_1 a0_2 a1_0 a1_1 a1_2 = some (r1, r2, r3)) :
  Calls Try.prog 62 #[.agg #[.bool a0_0, .int .u64 a0_1, .int .u64 a0_2], .agg #[.bool a1_0, .int .u64 a1_1, .int .u64 a1_2]] w fun e w' => e = .returned (.agg #[.bool r1, .int .u64 r2, .int .u64 r3]) ∧ Below w.heap.size w w' := by
 have hu58 := Try.underlying58
 have HB := Aside0.mk (Below.refl w.heap.size w)
 have H : (if (a0_0 == a1_0) = true then ((bits_Add64.f a0_2 a1_2 0).bind fun bt540 => ((bits_Add64.f a0_1 a1_1 bt540.2).bind fun bt542 => (some (a0_0, bt542.1, bt540.1)))) else ((ratio_wide_compare.f k a0_0 a0_1 a0_2 a1_0 a1_1 a1_2).bind fun t544 => (if t544 < 0 then ((bits_Sub64.f a1_2 a0_2 0).bind fun bt545 => ((bits_Sub64.f a1_1 a0_1 bt545.2).bind fun bt547 => (some (a1_0, bt547.1, bt545.1)))) else ((bits_Sub64.f a0_2 a1_2 0).bind fun bt549 => ((bits_Sub64.f a0_1 a1_1 bt549.2).bind fun bt551 => (some (a0_0, bt551.1, bt549.1))))))) = some (r1, r2, r3) := h
 clear h
 have HC3 := Aside0.mk H
 clear H
 go_enter Try.func62, Try.ntmps62
 go_upto_if 17 with (first | ((with_reducible refine gate_dst (N := 2) rfl ?_); refine box_event ?hg (N := 2) ?hd (cs := #[.bool a0_0, .int .u64 a0_1, .int .u64 a0_2]) (t := 58) ?hr ?_; (case hd => rfl); (case hg => rfl); (case hr => first | (go_simp; done) | (go_simp; rfl)); intro gb537 hg w4 hbox hb; have BK537 := Aside0.mk (hbox); have GW537 := gs HB hg; have GE537 := gs HB hg; replace HB := wb HB hb; clear hb hbox hg) | ((with_reducible refine gate_dst (N := 3) rfl ?_); refine box_event ?hg (N := 3) ?hd (cs := #[.bool a1_0, .int .u64 a1_1, .int .u64 a1_2]) (t := 58) ?hr ?_; (case hd => rfl); (case hg => rfl); (case hr => first | (go_simp; done) | (go_simp; rfl)); intro gb538 hg w5 hbox hb; have BK538 := Aside0.mk (hbox); have GW538 := gs HB hg; have GE538 := gs HB hg; have NB537_538 := nl BK537 hg; have NB538_537 := nr BK537 hg; replace BK537 := kb BK537 hb; replace HB := wb HB hb; clear hb hbox hg) | ((with_reducible refine gate_dst (N := 4) rfl ?_); refine box_event ?hg (N := 4) ?hd (cs := #[.bool false, .int .u64 0, .int .u64 0]) (t := 58) ?hr ?_; (case hd => rfl); (case hg => rfl); (case hr => first | (go_simp; done) | (go_simp; rfl)); intro gb539 hg w6 hbox hb; have BK539 := Aside0.mk (hbox); have GW539 := gs HB hg; have GE539 := gs HB hg; have NB537_539 := nl BK537 hg; have NB539_537 := nr BK537 hg; have NB538_539 := nl BK538 hg; have NB539_538 := nr BK538 hg; replace BK537 := kb BK537 hb; replace BK538 := kb BK538 hb; replace HB := wb HB hb; clear hb hbox hg; obtain ⟨hnb7, hnc7⟩ := n2 NB537_538; obtain ⟨hnb8, hnc8⟩ := n2 NB537_539; have hcz9_0 : w6.cell? ⟨gb537, 0, none⟩ = some (.bool a0_0) := (blk_cell BK537.out 0).trans rfl; have hcz9_1 : w6.cell? ⟨gb537, 1, none⟩ = some (.int .u64 a0_1) := (blk_cell BK537.out 1).trans rfl; have hcz9_2 : w6.cell? ⟨gb537, 2, none⟩ = some (.int .u64 a0_2) := (blk_cell BK537.out 2).trans rfl; have hfz9_0 := blk_frozen BK537.out 0; have hfz9_1 := blk_frozen BK537.out 1; have hfz9_2 := blk_frozen BK537.out 2; obtain ⟨hnb10, hnc10⟩ := n2 NB538_539; have hcz11_0 : w6.cell? ⟨gb538, 0, none⟩ = some (.bool a1_0) := (blk_cell BK538.out 0).trans rfl; have hcz11_1 : w6.cell? ⟨gb538, 1, none⟩ = some (.int .u64 a1_1) := (blk_cell BK538.out 1).trans rfl; have hcz11_2 : w6.cell? ⟨gb538, 2, none⟩ = some (.int .u64 a1_2) := (blk_cell BK538.out 2).trans rfl; have hfz11_0 := blk_frozen BK538.out 0; have hfz11_1 := blk_frozen BK538.out 1; have hfz11_2 := blk_frozen BK538.out 2))
 (try simp only [Act.put, List.setIfInBounds_toArray, List.set_cons_zero, List.set_cons_succ])
 have H := HC3.out
 clear HC3
 by_cases c12 : (a0_0 == a1_0) = true
 ·rw [if_pos c12] at H
  have c12b0 : (a0_0 == a1_0) = true := c12
  (try (have c12b1 : decide (a0_0 = a1_0) = true := by simpa using c12))
  (try (have c12b2 : (a0_0 == a1_0) = true := by simpa using c12))
  clear c12
  (first | rw [c12b0] | (simp only [i64_w, i32_w]; rw [c12b0]) | skip)
  replace H := Option.bind_eq_some_iff.mp H
  obtain ⟨⟨t540, t541⟩, A130, H⟩ := H
  replace H : ((bits_Add64.f a0_1 a1_1 t541).bind fun bt542 => (some (a0_0, bt542.1, t540))) = some (r1, r2, r3) := H
  have A13 := Aside0.mk A130
  clear A130
  replace H := Option.bind_eq_some_iff.mp H
  obtain ⟨⟨t542, t543⟩, A140, H⟩ := H
  replace H : (some (a0_0, t542, t540)) = some (r1, r2, r3) := H
  have A14 := Aside0.mk A140
  clear A140
  simp only [Option.some.injEq, Prod.mk.injEq] at H
  obtain ⟨rfl, rfl, rfl⟩ := H
  obtain ⟨hnb15, hnc15⟩ := n2 NB537_538
  obtain ⟨hnb16, hnc16⟩ := n2 NB537_539
  have hcz17_0 : w6.cell? ⟨gb537, 0, none⟩ = some (.bool a0_0) := (blk_cell BK537.out 0).trans rfl
  have hcz17_1 : w6.cell? ⟨gb537, 1, none⟩ = some (.int .u64 a0_1) := (blk_cell BK537.out 1).trans rfl
  have hcz17_2 : w6.cell? ⟨gb537, 2, none⟩ = some (.int .u64 a0_2) := (blk_cell BK537.out 2).trans rfl
  have hfz17_0 := blk_frozen BK537.out 0
  have hfz17_1 := blk_frozen BK537.out 1
  have hfz17_2 := blk_frozen BK537.out 2
  obtain ⟨hnb18, hnc18⟩ := n2 NB538_539
  have hcz19_0 : w6.cell? ⟨gb538, 0, none⟩ = some (.bool a1_0) := (blk_cell BK538.out 0).trans rfl
  have hcz19_1 : w6.cell? ⟨gb538, 1, none⟩ = some (.int .u64 a1_1) := (blk_cell BK538.out 1).trans rfl
  have hcz19_2 : w6.cell? ⟨gb538, 2, none⟩ = some (.int .u64 a1_2) := (blk_cell BK538.out 2).trans rfl
  have hfz19_0 := blk_frozen BK538.out 0
  have hfz19_1 := blk_frozen BK538.out 1
  have hfz19_2 := blk_frozen BK538.out 2
  go_wp2_with (first | ((with_reducible refine gate_callee (f := 73) rfl ?_); refine goesX_ (some 23) rfl rfl Try.func73 (by kernel_rfl) rfl #[.int .u64 a0_2, .int .u64 a1_2, .int .u64 0] rfl (by (try simp only [List.map_toArray, List.map_cons, List.map_nil]); first | done | rfl | (simp only [List.length_drop, List.length_take]; rfl)) ?_; (with_reducible refine (bits_Add64.calls a0_2 a1_2 0 t540 t541 _ A13.out).mono ?_); rintro e w20 ⟨rfl, hb⟩; refine ⟨_, rfl, ?_⟩; replace BK537 := kb BK537 hb; replace BK538 := kb BK538 hb; replace BK539 := kb BK539 hb; replace HB := wb HB hb; (try clear hb); (try clear hb2); (try clear hk); (try clear hi); have hcz21_0 : w20.cell? ⟨gb537, 0, none⟩ = some (.bool a0_0) := (blk_cell BK537.out 0).trans rfl; have hcz21_1 : w20.cell? ⟨gb537, 1, none⟩ = some (.int .u64 a0_1) := (blk_cell BK537.out 1).trans rfl; have hcz21_2 : w20.cell? ⟨gb537, 2, none⟩ = some (.int .u64 a0_2) := (blk_cell BK537.out 2).trans rfl; have hfz21_0 := blk_frozen BK537.out 0; have hfz21_1 := blk_frozen BK537.out 1; have hfz21_2 := blk_frozen BK537.out 2; have hcz22_0 : w20.cell? ⟨gb538, 0, none⟩ = some (.bool a1_0) := (blk_cell BK538.out 0).trans rfl; have hcz22_1 : w20.cell? ⟨gb538, 1, none⟩ = some (.int .u64 a1_1) := (blk_cell BK538.out 1).trans rfl; have hcz22_2 : w20.cell? ⟨gb538, 2, none⟩ = some (.int .u64 a1_2) := (blk_cell BK538.out 2).trans rfl; have hfz22_0 := blk_frozen BK538.out 0; have hfz22_1 := blk_frozen BK538.out 1; have hfz22_2 := blk_frozen BK538.out 2) | ((with_reducible refine gate_callee (f := 73) rfl ?_); refine goesX_ (some 32) rfl rfl Try.func73 (by kernel_rfl) rfl #[.int .u64 a0_1, .int .u64 a1_1, .int .u64 t541] rfl (by (try simp only [List.map_toArray, List.map_cons, List.map_nil]); first | done | rfl | (simp only [List.length_drop, List.length_take]; rfl)) ?_; (with_reducible refine (bits_Add64.calls a0_1 a1_1 t541 t542 t543 _ A14.out).mono ?_); rintro e w23 ⟨rfl, hb⟩; refine ⟨_, rfl, ?_⟩; replace BK537 := kb BK537 hb; replace BK538 := kb BK538 hb; replace BK539 := kb BK539 hb; replace HB := wb HB hb; (try clear hb); (try clear hb2); (try clear hk); (try clear hi); have hcz24_0 : w23.cell? ⟨gb537, 0, none⟩ = some (.bool a0_0) := (blk_cell BK537.out 0).trans rfl; have hcz24_1 : w23.cell? ⟨gb537, 1, none⟩ = some (.int .u64 a0_1) := (blk_cell BK537.out 1).trans rfl; have hcz24_2 : w23.cell? ⟨gb537, 2, none⟩ = some (.int .u64 a0_2) := (blk_cell BK537.out 2).trans rfl; have hfz24_0 := blk_frozen BK537.out 0; have hfz24_1 := blk_frozen BK537.out 1; have hfz24_2 := blk_frozen BK537.out 2; have hcz25_0 : w23.cell? ⟨gb539, 0, none⟩ = some (.bool false) := (blk_cell BK539.out 0).trans rfl; have hcz25_1 : w23.cell? ⟨gb539, 1, none⟩ = some (.int .u64 0) := (blk_cell BK539.out 1).trans rfl; have hcz25_2 : w23.cell? ⟨gb539, 2, none⟩ = some (.int .u64 0) := (blk_cell BK539.out 2).trans rfl; have hfz25_0 := blk_frozen BK539.out 0; have hfz25_1 := blk_frozen BK539.out 1; have hfz25_2 := blk_frozen BK539.out 2))
  refine bodyPost_ret (results_cell_row rfl _ _ gb539 58 #[.bool a0_0, .int .u64 t542, .int .u64 t540] (0, 0) _ rfl (by refine pe ?_; refine blk_put (cs := #[.bool a0_0, .int .u64 t542, .int .u64 0]) ?_ 2 _ rfl; refine pe ?_; refine blk_put (cs := #[.bool a0_0, .int .u64 0, .int .u64 0]) ?_ 1 _ rfl; refine pe ?_; refine blk_put (cs := #[.bool false, .int .u64 0, .int .u64 0]) ?_ 0 _ rfl; refine pe ?_; exact BK539.out) Try.underlying58 rfl (by kernel_rfl)) rfl ?_
  exact ⟨by first | rfl | (simp [errW_none, errW_some] <;> rfl) | (simp [*, errW_none, errW_some] <;> rfl), bw HB⟩
 ·rw [if_neg c12] at H
  have c12b0 : (a0_0 == a1_0) = false := by simpa using c12
  (try (have c12b1 : decide (a0_0 = a1_0) = false := by simpa using c12))
  (try (have c12b2 : (a0_0 == a1_0) = false := by simpa using c12))
  (try (have c12b3 : ¬ (a0_0 = a1_0) := by simpa using c12))
  clear c12
  (first | rw [c12b0] | (simp only [i64_w, i32_w]; rw [c12b0]) | skip)
  replace H := Option.bind_eq_some_iff.mp H
  obtain ⟨t544, A260, H⟩ := H
  replace H : (if t544 < 0 then ((bits_Sub64.f a1_2 a0_2 0).bind fun bt545 => ((bits_Sub64.f a1_1 a0_1 bt545.2).bind fun bt547 => (some (a1_0, bt547.1, bt545.1)))) else ((bits_Sub64.f a0_2 a1_2 0).bind fun bt549 => ((bits_Sub64.f a0_1 a1_1 bt549.2).bind fun bt551 => (some (a0_0, bt551.1, bt549.1))))) = some (r1, r2, r3) := H
  have A26 := Aside0.mk A260
  clear A260
  by_cases c27 : t544 < 0
  ·rw [if_pos c27] at H
   have c27b0 : decide (t544 < 0) = true := decide_eq_true c27
   clear c27
   replace H := Option.bind_eq_some_iff.mp H
   obtain ⟨⟨t545, t546⟩, A280, H⟩ := H
   replace H : ((bits_Sub64.f a1_1 a0_1 t546).bind fun bt547 => (some (a1_0, bt547.1, t545))) = some (r1, r2, r3) := H
   have A28 := Aside0.mk A280
   clear A280
   replace H := Option.bind_eq_some_iff.mp H
   obtain ⟨⟨t547, t548⟩, A290, H⟩ := H
   replace H : (some (a1_0, t547, t545)) = some (r1, r2, r3) := H
   have A29 := Aside0.mk A290
   clear A290
   simp only [Option.some.injEq, Prod.mk.injEq] at H
   obtain ⟨rfl, rfl, rfl⟩ := H
   obtain ⟨hnb30, hnc30⟩ := n2 NB537_538
   obtain ⟨hnb31, hnc31⟩ := n2 NB537_539
   have hcz32_0 : w6.cell? ⟨gb537, 0, none⟩ = some (.bool a0_0) := (blk_cell BK537.out 0).trans rfl
   have hcz32_1 : w6.cell? ⟨gb537, 1, none⟩ = some (.int .u64 a0_1) := (blk_cell BK537.out 1).trans rfl
   have hcz32_2 : w6.cell? ⟨gb537, 2, none⟩ = some (.int .u64 a0_2) := (blk_cell BK537.out 2).trans rfl
   have hfz32_0 := blk_frozen BK537.out 0
   have hfz32_1 := blk_frozen BK537.out 1
   have hfz32_2 := blk_frozen BK537.out 2
   obtain ⟨hnb33, hnc33⟩ := n2 NB538_539
   have hcz34_0 : w6.cell? ⟨gb538, 0, none⟩ = some (.bool a1_0) := (blk_cell BK538.out 0).trans rfl
   have hcz34_1 : w6.cell? ⟨gb538, 1, none⟩ = some (.int .u64 a1_1) := (blk_cell BK538.out 1).trans rfl
   have hcz34_2 : w6.cell? ⟨gb538, 2, none⟩ = some (.int .u64 a1_2) := (blk_cell BK538.out 2).trans rfl
   have hfz34_0 := blk_frozen BK538.out 0
   have hfz34_1 := blk_frozen BK538.out 1
   have hfz34_2 := blk_frozen BK538.out 2
   go_wp2_with (first | ((with_reducible refine gate_callee (f := 59) rfl ?_); refine goesL_ (some 42) rfl rfl Try.func59 (by kernel_rfl) rfl #[.agg #[.bool a0_0, .int .u64 a0_1, .int .u64 a0_2], .agg #[.bool a1_0, .int .u64 a1_1, .int .u64 a1_2]] rfl (by (try simp only [List.map_toArray, List.map_cons, List.map_nil]); first | done | rfl | (simp only [List.length_drop, List.length_take]; rfl)) ?_; (with_reducible refine (ratio_wide_compare.calls k a0_0 a0_1 a0_2 a1_0 a1_1 a1_2 t544 _ A26.out).mono ?_); rintro e w35 ⟨rfl, hb⟩; refine ⟨_, rfl, ?_⟩; replace BK537 := kb BK537 hb; replace BK538 := kb BK538 hb; replace BK539 := kb BK539 hb; replace HB := wb HB hb; (try clear hb); (try clear hb2); (try clear hk); (try clear hi); have hcz36_0 : w35.cell? ⟨gb538, 0, none⟩ = some (.bool a1_0) := (blk_cell BK538.out 0).trans rfl; have hcz36_1 : w35.cell? ⟨gb538, 1, none⟩ = some (.int .u64 a1_1) := (blk_cell BK538.out 1).trans rfl; have hcz36_2 : w35.cell? ⟨gb538, 2, none⟩ = some (.int .u64 a1_2) := (blk_cell BK538.out 2).trans rfl; have hfz36_0 := blk_frozen BK538.out 0; have hfz36_1 := blk_frozen BK538.out 1; have hfz36_2 := blk_frozen BK538.out 2; have hcz37_0 : w35.cell? ⟨gb537, 0, none⟩ = some (.bool a0_0) := (blk_cell BK537.out 0).trans rfl; have hcz37_1 : w35.cell? ⟨gb537, 1, none⟩ = some (.int .u64 a0_1) := (blk_cell BK537.out 1).trans rfl; have hcz37_2 : w35.cell? ⟨gb537, 2, none⟩ = some (.int .u64 a0_2) := (blk_cell BK537.out 2).trans rfl; have hfz37_0 := blk_frozen BK537.out 0; have hfz37_1 := blk_frozen BK537.out 1; have hfz37_2 := blk_frozen BK537.out 2) | ((with_reducible refine gate_callee (f := 74) rfl ?_); refine goesX_ (some 51) rfl rfl Try.func74 (by kernel_rfl) rfl #[.int .u64 a1_2, .int .u64 a0_2, .int .u64 0] rfl (by (try simp only [List.map_toArray, List.map_cons, List.map_nil]); first | done | rfl | (simp only [List.length_drop, List.length_take]; rfl)) ?_; (with_reducible refine (bits_Sub64.calls a1_2 a0_2 0 t545 t546 _ A28.out).mono ?_); rintro e w38 ⟨rfl, hb⟩; refine ⟨_, rfl, ?_⟩; replace BK537 := Aside0.mk (blk_below (g := gb537) (o := .cells #[.bool a1_0, .int .u64 a1_1, .int .u64 a1_2] 58 (0, 0)) (by refine pe ?_; refine blk_far ?_ NB537_538.out _; refine pe ?_; refine blk_far ?_ NB537_538.out _; refine pe ?_; refine blk_far ?_ NB537_538.out _; refine pe ?_; refine blk_put (cs := #[.bool a1_0, .int .u64 a1_1, .int .u64 a0_2]) ?_ 2 _ rfl; refine pe ?_; refine blk_put (cs := #[.bool a1_0, .int .u64 a0_1, .int .u64 a0_2]) ?_ 1 _ rfl; refine pe ?_; refine blk_put (cs := #[.bool a0_0, .int .u64 a0_1, .int .u64 a0_2]) ?_ 0 _ rfl; refine pe ?_; exact BK537.out) hb); replace BK538 := Aside0.mk (blk_below (g := gb538) (o := .cells #[.bool a0_0, .int .u64 a0_1, .int .u64 a0_2] 58 (0, 0)) (by refine pe ?_; refine blk_put (cs := #[.bool a0_0, .int .u64 a0_1, .int .u64 a1_2]) ?_ 2 _ rfl; refine pe ?_; refine blk_put (cs := #[.bool a0_0, .int .u64 a1_1, .int .u64 a1_2]) ?_ 1 _ rfl; refine pe ?_; refine blk_put (cs := #[.bool a1_0, .int .u64 a1_1, .int .u64 a1_2]) ?_ 0 _ rfl; refine pe ?_; refine blk_far ?_ NB538_537.out _; refine pe ?_; refine blk_far ?_ NB538_537.out _; refine pe ?_; refine blk_far ?_ NB538_537.out _; refine pe ?_; exact BK538.out) hb); replace BK539 := kb BK539 hb; replace HB := wb HB hb; (try clear hb); (try clear hb2); (try clear hk); (try clear hi); have hcz39_0 : w38.cell? ⟨gb537, 0, none⟩ = some (.bool a1_0) := (blk_cell BK537.out 0).trans rfl; have hcz39_1 : w38.cell? ⟨gb537, 1, none⟩ = some (.int .u64 a1_1) := (blk_cell BK537.out 1).trans rfl; have hcz39_2 : w38.cell? ⟨gb537, 2, none⟩ = some (.int .u64 a1_2) := (blk_cell BK537.out 2).trans rfl; have hfz39_0 := blk_frozen BK537.out 0; have hfz39_1 := blk_frozen BK537.out 1; have hfz39_2 := blk_frozen BK537.out 2; have hcz40_0 : w38.cell? ⟨gb538, 0, none⟩ = some (.bool a0_0) := (blk_cell BK538.out 0).trans rfl; have hcz40_1 : w38.cell? ⟨gb538, 1, none⟩ = some (.int .u64 a0_1) := (blk_cell BK538.out 1).trans rfl; have hcz40_2 : w38.cell? ⟨gb538, 2, none⟩ = some (.int .u64 a0_2) := (blk_cell BK538.out 2).trans rfl; have hfz40_0 := blk_frozen BK538.out 0; have hfz40_1 := blk_frozen BK538.out 1; have hfz40_2 := blk_frozen BK538.out 2) | ((with_reducible refine gate_callee (f := 74) rfl ?_); refine goesX_ (some 60) rfl rfl Try.func74 (by kernel_rfl) rfl #[.int .u64 a1_1, .int .u64 a0_1, .int .u64 t546] rfl (by (try simp only [List.map_toArray, List.map_cons, List.map_nil]); first | done | rfl | (simp only [List.length_drop, List.length_take]; rfl)) ?_; (with_reducible refine (bits_Sub64.calls a1_1 a0_1 t546 t547 t548 _ A29.out).mono ?_); rintro e w41 ⟨rfl, hb⟩; refine ⟨_, rfl, ?_⟩; replace BK537 := kb BK537 hb; replace BK538 := kb BK538 hb; replace BK539 := kb BK539 hb; replace HB := wb HB hb; (try clear hb); (try clear hb2); (try clear hk); (try clear hi); have hcz42_0 : w41.cell? ⟨gb537, 0, none⟩ = some (.bool a1_0) := (blk_cell BK537.out 0).trans rfl; have hcz42_1 : w41.cell? ⟨gb537, 1, none⟩ = some (.int .u64 a1_1) := (blk_cell BK537.out 1).trans rfl; have hcz42_2 : w41.cell? ⟨gb537, 2, none⟩ = some (.int .u64 a1_2) := (blk_cell BK537.out 2).trans rfl; have hfz42_0 := blk_frozen BK537.out 0; have hfz42_1 := blk_frozen BK537.out 1; have hfz42_2 := blk_frozen BK537.out 2; have hcz43_0 : w41.cell? ⟨gb539, 0, none⟩ = some (.bool false) := (blk_cell BK539.out 0).trans rfl; have hcz43_1 : w41.cell? ⟨gb539, 1, none⟩ = some (.int .u64 0) := (blk_cell BK539.out 1).trans rfl; have hcz43_2 : w41.cell? ⟨gb539, 2, none⟩ = some (.int .u64 0) := (blk_cell BK539.out 2).trans rfl; have hfz43_0 := blk_frozen BK539.out 0; have hfz43_1 := blk_frozen BK539.out 1; have hfz43_2 := blk_frozen BK539.out 2))
   refine bodyPost_ret (results_cell_row rfl _ _ gb539 58 #[.bool a1_0, .int .u64 t547, .int .u64 t545] (0, 0) _ rfl (by refine pe ?_; refine blk_put (cs := #[.bool a1_0, .int .u64 t547, .int .u64 0]) ?_ 2 _ rfl; refine pe ?_; refine blk_put (cs := #[.bool a1_0, .int .u64 0, .int .u64 0]) ?_ 1 _ rfl; refine pe ?_; refine blk_put (cs := #[.bool false, .int .u64 0, .int .u64 0]) ?_ 0 _ rfl; refine pe ?_; exact BK539.out) Try.underlying58 rfl (by kernel_rfl)) rfl ?_
   exact ⟨by first | rfl | (simp [errW_none, errW_some] <;> rfl) | (simp [*, errW_none, errW_some] <;> rfl), bw HB⟩
  ·rw [if_neg c27] at H
   have c27b0 : decide (t544 < 0) = false := decide_eq_false c27
   clear c27
   replace H := Option.bind_eq_some_iff.mp H
   obtain ⟨⟨t549, t550⟩, A440, H⟩ := H
   replace H : ((bits_Sub64.f a0_1 a1_1 t550).bind fun bt551 => (some (a0_0, bt551.1, t549))) = some (r1, r2, r3) := H
   have A44 := Aside0.mk A440
   clear A440
   replace H := Option.bind_eq_some_iff.mp H
   obtain ⟨⟨t551, t552⟩, A450, H⟩ := H
   replace H : (some (a0_0, t551, t549)) = some (r1, r2, r3) := H
   have A45 := Aside0.mk A450
   clear A450
   simp only [Option.some.injEq, Prod.mk.injEq] at H
   obtain ⟨rfl, rfl, rfl⟩ := H
   obtain ⟨hnb46, hnc46⟩ := n2 NB537_538
   obtain ⟨hnb47, hnc47⟩ := n2 NB537_539
   have hcz48_0 : w6.cell? ⟨gb537, 0, none⟩ = some (.bool a0_0) := (blk_cell BK537.out 0).trans rfl
   have hcz48_1 : w6.cell? ⟨gb537, 1, none⟩ = some (.int .u64 a0_1) := (blk_cell BK537.out 1).trans rfl
   have hcz48_2 : w6.cell? ⟨gb537, 2, none⟩ = some (.int .u64 a0_2) := (blk_cell BK537.out 2).trans rfl
   have hfz48_0 := blk_frozen BK537.out 0
   have hfz48_1 := blk_frozen BK537.out 1
   have hfz48_2 := blk_frozen BK537.out 2
   obtain ⟨hnb49, hnc49⟩ := n2 NB538_539
   have hcz50_0 : w6.cell? ⟨gb538, 0, none⟩ = some (.bool a1_0) := (blk_cell BK538.out 0).trans rfl
   have hcz50_1 : w6.cell? ⟨gb538, 1, none⟩ = some (.int .u64 a1_1) := (blk_cell BK538.out 1).trans rfl
   have hcz50_2 : w6.cell? ⟨gb538, 2, none⟩ = some (.int .u64 a1_2) := (blk_cell BK538.out 2).trans rfl
   have hfz50_0 := blk_frozen BK538.out 0
   have hfz50_1 := blk_frozen BK538.out 1
   have hfz50_2 := blk_frozen BK538.out 2
   go_wp2_with (first | ((with_reducible refine gate_callee (f := 59) rfl ?_); refine goesL_ (some 42) rfl rfl Try.func59 (by kernel_rfl) rfl #[.agg #[.bool a0_0, .int .u64 a0_1, .int .u64 a0_2], .agg #[.bool a1_0, .int .u64 a1_1, .int .u64 a1_2]] rfl (by (try simp only [List.map_toArray, List.map_cons, List.map_nil]); first | done | rfl | (simp only [List.length_drop, List.length_take]; rfl)) ?_; (with_reducible refine (ratio_wide_compare.calls k a0_0 a0_1 a0_2 a1_0 a1_1 a1_2 t544 _ A26.out).mono ?_); rintro e w51 ⟨rfl, hb⟩; refine ⟨_, rfl, ?_⟩; replace BK537 := kb BK537 hb; replace BK538 := kb BK538 hb; replace BK539 := kb BK539 hb; replace HB := wb HB hb; (try clear hb); (try clear hb2); (try clear hk); (try clear hi); have hcz52_0 : w51.cell? ⟨gb537, 0, none⟩ = some (.bool a0_0) := (blk_cell BK537.out 0).trans rfl; have hcz52_1 : w51.cell? ⟨gb537, 1, none⟩ = some (.int .u64 a0_1) := (blk_cell BK537.out 1).trans rfl; have hcz52_2 : w51.cell? ⟨gb537, 2, none⟩ = some (.int .u64 a0_2) := (blk_cell BK537.out 2).trans rfl; have hfz52_0 := blk_frozen BK537.out 0; have hfz52_1 := blk_frozen BK537.out 1; have hfz52_2 := blk_frozen BK537.out 2; have hcz53_0 : w51.cell? ⟨gb538, 0, none⟩ = some (.bool a1_0) := (blk_cell BK538.out 0).trans rfl; have hcz53_1 : w51.cell? ⟨gb538, 1, none⟩ = some (.int .u64 a1_1) := (blk_cell BK538.out 1).trans rfl; have hcz53_2 : w51.cell? ⟨gb538, 2, none⟩ = some (.int .u64 a1_2) := (blk_cell BK538.out 2).trans rfl; have hfz53_0 := blk_frozen BK538.out 0; have hfz53_1 := blk_frozen BK538.out 1; have hfz53_2 := blk_frozen BK538.out 2) | ((with_reducible refine gate_callee (f := 74) rfl ?_); refine goesX_ (some 51) rfl rfl Try.func74 (by kernel_rfl) rfl #[.int .u64 a0_2, .int .u64 a1_2, .int .u64 0] rfl (by (try simp only [List.map_toArray, List.map_cons, List.map_nil]); first | done | rfl | (simp only [List.length_drop, List.length_take]; rfl)) ?_; (with_reducible refine (bits_Sub64.calls a0_2 a1_2 0 t549 t550 _ A44.out).mono ?_); rintro e w54 ⟨rfl, hb⟩; refine ⟨_, rfl, ?_⟩; replace BK537 := kb BK537 hb; replace BK538 := kb BK538 hb; replace BK539 := kb BK539 hb; replace HB := wb HB hb; (try clear hb); (try clear hb2); (try clear hk); (try clear hi); have hcz55_0 : w54.cell? ⟨gb537, 0, none⟩ = some (.bool a0_0) := (blk_cell BK537.out 0).trans rfl; have hcz55_1 : w54.cell? ⟨gb537, 1, none⟩ = some (.int .u64 a0_1) := (blk_cell BK537.out 1).trans rfl; have hcz55_2 : w54.cell? ⟨gb537, 2, none⟩ = some (.int .u64 a0_2) := (blk_cell BK537.out 2).trans rfl; have hfz55_0 := blk_frozen BK537.out 0; have hfz55_1 := blk_frozen BK537.out 1; have hfz55_2 := blk_frozen BK537.out 2; have hcz56_0 : w54.cell? ⟨gb538, 0, none⟩ = some (.bool a1_0) := (blk_cell BK538.out 0).trans rfl; have hcz56_1 : w54.cell? ⟨gb538, 1, none⟩ = some (.int .u64 a1_1) := (blk_cell BK538.out 1).trans rfl; have hcz56_2 : w54.cell? ⟨gb538, 2, none⟩ = some (.int .u64 a1_2) := (blk_cell BK538.out 2).trans rfl; have hfz56_0 := blk_frozen BK538.out 0; have hfz56_1 := blk_frozen BK538.out 1; have hfz56_2 := blk_frozen BK538.out 2) | ((with_reducible refine gate_callee (f := 74) rfl ?_); refine goesX_ (some 60) rfl rfl Try.func74 (by kernel_rfl) rfl #[.int .u64 a0_1, .int .u64 a1_1, .int .u64 t550] rfl (by (try simp only [List.map_toArray, List.map_cons, List.map_nil]); first | done | rfl | (simp only [List.length_drop, List.length_take]; rfl)) ?_; (with_reducible refine (bits_Sub64.calls a0_1 a1_1 t550 t551 t552 _ A45.out).mono ?_); rintro e w57 ⟨rfl, hb⟩; refine ⟨_, rfl, ?_⟩; replace BK537 := kb BK537 hb; replace BK538 := kb BK538 hb; replace BK539 := kb BK539 hb; replace HB := wb HB hb; (try clear hb); (try clear hb2); (try clear hk); (try clear hi); have hcz58_0 : w57.cell? ⟨gb537, 0, none⟩ = some (.bool a0_0) := (blk_cell BK537.out 0).trans rfl; have hcz58_1 : w57.cell? ⟨gb537, 1, none⟩ = some (.int .u64 a0_1) := (blk_cell BK537.out 1).trans rfl; have hcz58_2 : w57.cell? ⟨gb537, 2, none⟩ = some (.int .u64 a0_2) := (blk_cell BK537.out 2).trans rfl; have hfz58_0 := blk_frozen BK537.out 0; have hfz58_1 := blk_frozen BK537.out 1; have hfz58_2 := blk_frozen BK537.out 2; have hcz59_0 : w57.cell? ⟨gb539, 0, none⟩ = some (.bool false) := (blk_cell BK539.out 0).trans rfl; have hcz59_1 : w57.cell? ⟨gb539, 1, none⟩ = some (.int .u64 0) := (blk_cell BK539.out 1).trans rfl; have hcz59_2 : w57.cell? ⟨gb539, 2, none⟩ = some (.int .u64 0) := (blk_cell BK539.out 2).trans rfl; have hfz59_0 := blk_frozen BK539.out 0; have hfz59_1 := blk_frozen BK539.out 1; have hfz59_2 := blk_frozen BK539.out 2))
   refine bodyPost_ret (results_cell_row rfl _ _ gb539 58 #[.bool a0_0, .int .u64 t551, .int .u64 t549] (0, 0) _ rfl (by refine pe ?_; refine blk_put (cs := #[.bool a0_0, .int .u64 t551, .int .u64 0]) ?_ 2 _ rfl; refine pe ?_; refine blk_put (cs := #[.bool a0_0, .int .u64 0, .int .u64 0]) ?_ 1 _ rfl; refine pe ?_; refine blk_put (cs := #[.bool false, .int .u64 0, .int .u64 0]) ?_ 0 _ rfl; refine pe ?_; exact BK539.out) Try.underlying58 rfl (by kernel_rfl)) rfl ?_
   exact ⟨by first | rfl | (simp [errW_none, errW_some] <;> rfl) | (simp [*, errW_none, errW_some] <;> rfl), bw HB⟩

end Go.Proofs.Ytcbohbeipgcfhaa.G
