-- Printed by gp.py (a program of this session's own, over the kit's printer) out of the translation; Lean checks it.
import Derived.Test.YtcbohbeipgcfhaaG0
import Derived.Test.YtcbohbeipgcfhaaGf69
import Derived.Test.YtcbohbeipgcfhaaGf70
import Derived.Test.YtcbohbeipgcfhaaGf71
namespace Go.Proofs.Ytcbohbeipgcfhaa.G
open Go.Proofs.Ytcbohbeipgcfhaa.Given Go.Proofs.Ytcbohbeipgcfhaa.Short
open Go.RowKit Go.Proofs.YtcbohbeipgcfhaaW.PrintWords Go.Proofs.YtcbohbeipgcfhaaW.PrintLast Go.Proofs.YtcbohbeipgcfhaaW.PrintMore
attribute [local go_sem] max2_int min2_int max_two min_two max_three min_three max_four min_four   -- for this text's walks alone
set_option linter.unusedVariables false
set_option linter.unusedSimpArgs false

/-! ### awardingbodyref01_total: function 60 -/
def awardingbodyref01_total.f (k : Nat) (a0 : Bool) (a1_0 : Int) (a1_1 : Int) (a2 : Bool) (a3_0 : Int) (a3_1 : Int) : Option (Bool × Int × Int) := if (a0 == a2) = true then ((awardingbodyref01_Plus.f a1_0 a1_1 a3_0 a3_1).bind fun bt468 => (some (a0, bt468.1, bt468.2))) else ((awardingbodyref01_Order.f k a1_0 a1_1 a3_0 a3_1).bind fun t470 => (if t470 ≥ 0 then ((awardingbodyref01_Minus.f a1_0 a1_1 a3_0 a3_1).bind fun bt471 => (some (a0, bt471.1, bt471.2))) else ((awardingbodyref01_Minus.f a3_0 a3_1 a1_0 a1_1).bind fun bt473 => (some (a2, bt473.1, bt473.2)))))
theorem awardingbodyref01_total.mono : ∀ a0 a1 a2 a3 a4 a5 k, LeO (awardingbodyref01_total.f k a0 a1 a2 a3 a4 a5) (awardingbodyref01_total.f (k + 1) a0 a1 a2 a3 a4 a5) := by
  intro a0 a1 a2 a3 a4 a5 k
  unfold awardingbodyref01_total.f
  repeat' first
      | (with_reducible exact awardingbodyref01_Order.mono _ _ _ _ _)
      | (with_reducible exact LeO.refl _)
      | (with_reducible exact LeO.none _)
      | (with_reducible refine LeO.ite ?_ ?_)
      | (with_reducible refine LeO.bind ?_ (fun _ => ?_))
      | exact awardingbodyref01_Order.mono _ _ _ _ _
      | exact LeO.none _
      | refine LeO.ite ?_ ?_
      | refine LeO.bind ?_ (fun _ => ?_)
set_option maxHeartbeats 8000000 in
set_option maxRecDepth 100000 in
theorem awardingbodyref01_total.calls (k : Nat) (a0 : Bool) (a1_0 : Int) (a1_1 : Int) (a2 : Bool) (a3_0 : Int) (a3_1 : Int) (r1 : Bool) (r2 : Int) (r3 : Int) (w : World) (h : awardingbodyref01_total.f k a0 a1_0 a1_1 a2 a3_0 a3_1 = some (r1, r2, r3)) :
    Calls Try.prog 60 #[.bool a0, .agg #[.int .u64 a1_0, .int .u64 a1_1], .bool a2, .agg #[.int .u64 a3_0, .int .u64 a3_1]] w fun e w' => e = .returned (.tuple #[.bool r1, .agg #[.int .u64 r2, .int .u64 r3]]) ∧ Below w.heap.size w w' := by
  have hu61 := Try.underlying61
  have HB := Aside0.mk (Below.refl w.heap.size w)
  have H : (if (a0 == a2) = true then ((awardingbodyref01_Plus.f a1_0 a1_1 a3_0 a3_1).bind fun bt468 => (some (a0, bt468.1, bt468.2))) else ((awardingbodyref01_Order.f k a1_0 a1_1 a3_0 a3_1).bind fun t470 => (if t470 ≥ 0 then ((awardingbodyref01_Minus.f a1_0 a1_1 a3_0 a3_1).bind fun bt471 => (some (a0, bt471.1, bt471.2))) else ((awardingbodyref01_Minus.f a3_0 a3_1 a1_0 a1_1).bind fun bt473 => (some (a2, bt473.1, bt473.2)))))) = some (r1, r2, r3) := h
  clear h
  have HC5 := Aside0.mk H
  clear H
  go_enter Try.func60, Try.ntmps60
  go_upto_if 12 with (first | ((with_reducible refine gate_dst (N := 5) rfl ?_); refine box_event ?hg (N := 5) ?hd (cs := #[.int .u64 a1_0, .int .u64 a1_1]) (t := 61) ?hr ?_; (case hd => rfl); (case hg => rfl); (case hr => first | (go_simp; done) | (go_simp; rfl)); intro gb465 hg w6 hbox hb; have BK465 := Aside0.mk (hbox); have GW465 := gs HB hg; have GE465 := gs HB hg; replace HB := wb HB hb; clear hb hbox hg) | ((with_reducible refine gate_dst (N := 7) rfl ?_); refine box_event ?hg (N := 7) ?hd (cs := #[.int .u64 a3_0, .int .u64 a3_1]) (t := 61) ?hr ?_; (case hd => rfl); (case hg => rfl); (case hr => first | (go_simp; done) | (go_simp; rfl)); intro gb466 hg w7 hbox hb; have BK466 := Aside0.mk (hbox); have GW466 := gs HB hg; have GE466 := gs HB hg; have NB465_466 := nl BK465 hg; have NB466_465 := nr BK465 hg; replace BK465 := kb BK465 hb; replace HB := wb HB hb; clear hb hbox hg) | ((with_reducible refine gate_dst (N := 9) rfl ?_); refine box_event ?hg (N := 9) ?hd (cs := #[.int .u64 0, .int .u64 0]) (t := 61) ?hr ?_; (case hd => rfl); (case hg => rfl); (case hr => first | (go_simp; done) | (go_simp; rfl)); intro gb467 hg w8 hbox hb; have BK467 := Aside0.mk (hbox); have GW467 := gs HB hg; have GE467 := gs HB hg; have NB465_467 := nl BK465 hg; have NB467_465 := nr BK465 hg; have NB466_467 := nl BK466 hg; have NB467_466 := nr BK466 hg; replace BK465 := kb BK465 hb; replace BK466 := kb BK466 hb; replace HB := wb HB hb; clear hb hbox hg))
  (try simp only [Act.put, List.setIfInBounds_toArray, List.set_cons_zero, List.set_cons_succ])
  have H := HC5.out
  clear HC5
  by_cases c9 : (a0 == a2) = true
  · rw [if_pos c9] at H
    have c9b0 : (a0 == a2) = true := c9
    (try (have c9b1 : decide (a0 = a2) = true := by simpa using c9))
    (try (have c9b2 : (a0 == a2) = true := by simpa using c9))
    clear c9
    (first | rw [c9b0] | (simp only [i64_w, i32_w]; rw [c9b0]) | skip)
    replace H := Option.bind_eq_some_iff.mp H
    obtain ⟨⟨t468, t469⟩, A100, H⟩ := H
    replace H : (some (a0, t468, t469)) = some (r1, r2, r3) := H
    have A10 := Aside0.mk A100
    clear A100
    simp only [Option.some.injEq, Prod.mk.injEq] at H
    obtain ⟨rfl, rfl, rfl⟩ := H
    obtain ⟨hnb11, hnc11⟩ := n2 NB465_466
    obtain ⟨hnb12, hnc12⟩ := n2 NB465_467
    have hcz13_0 : w8.cell? ⟨gb465, 0, none⟩ = some (.int .u64 a1_0) := (blk_cell BK465.out 0).trans rfl
    have hcz13_1 : w8.cell? ⟨gb465, 1, none⟩ = some (.int .u64 a1_1) := (blk_cell BK465.out 1).trans rfl
    have hfz13_0 := blk_frozen BK465.out 0
    have hfz13_1 := blk_frozen BK465.out 1
    obtain ⟨hnb14, hnc14⟩ := n2 NB466_467
    have hcz15_0 : w8.cell? ⟨gb466, 0, none⟩ = some (.int .u64 a3_0) := (blk_cell BK466.out 0).trans rfl
    have hcz15_1 : w8.cell? ⟨gb466, 1, none⟩ = some (.int .u64 a3_1) := (blk_cell BK466.out 1).trans rfl
    have hfz15_0 := blk_frozen BK466.out 0
    have hfz15_1 := blk_frozen BK466.out 1
    go_wp2_with (first | ((with_reducible refine gate_callee (f := 69) rfl ?_); refine goesL_ (some 16) rfl rfl Try.func69 (by kernel_rfl) rfl #[.agg #[.int .u64 a1_0, .int .u64 a1_1], .agg #[.int .u64 a3_0, .int .u64 a3_1]] rfl (by (try simp only [List.map_toArray, List.map_cons, List.map_nil]); first | done | rfl | (simp only [List.length_drop, List.length_take]; rfl)) ?_; (with_reducible refine (awardingbodyref01_Plus.calls a1_0 a1_1 a3_0 a3_1 t468 t469 _ A10.out).mono ?_); rintro e w16 ⟨rfl, hb⟩; refine ⟨_, rfl, ?_⟩; replace BK465 := kb BK465 hb; replace BK466 := kb BK466 hb; replace BK467 := kb BK467 hb; replace HB := wb HB hb; (try clear hb); (try clear hb2); (try clear hk); (try clear hi); have hcz17_0 : w16.cell? ⟨gb467, 0, none⟩ = some (.int .u64 0) := (blk_cell BK467.out 0).trans rfl; have hcz17_1 : w16.cell? ⟨gb467, 1, none⟩ = some (.int .u64 0) := (blk_cell BK467.out 1).trans rfl; have hfz17_0 := blk_frozen BK467.out 0; have hfz17_1 := blk_frozen BK467.out 1))
    refine bodyPost_ret (results_tc rfl _ _ gb467 61 #[.int .u64 t468, .int .u64 t469] (0, 0) _ rfl (by refine pe ?_; refine blk_put (cs := #[.int .u64 t468, .int .u64 0]) ?_ 1 _ rfl; refine pe ?_; refine blk_put (cs := #[.int .u64 0, .int .u64 0]) ?_ 0 _ rfl; refine pe ?_; exact BK467.out) Try.underlying61 rfl (by kernel_rfl)) rfl ?_
    exact ⟨by first | rfl | (simp [errW_none, errW_some] <;> rfl) | (simp [*, errW_none, errW_some] <;> rfl), bw HB⟩
  · rw [if_neg c9] at H
    have c9b0 : (a0 == a2) = false := by simpa using c9
    (try (have c9b1 : decide (a0 = a2) = false := by simpa using c9))
    (try (have c9b2 : (a0 == a2) = false := by simpa using c9))
    (try (have c9b3 : ¬ (a0 = a2) := by simpa using c9))
    clear c9
    (first | rw [c9b0] | (simp only [i64_w, i32_w]; rw [c9b0]) | skip)
    replace H := Option.bind_eq_some_iff.mp H
    obtain ⟨t470, A180, H⟩ := H
    replace H : (if t470 ≥ 0 then ((awardingbodyref01_Minus.f a1_0 a1_1 a3_0 a3_1).bind fun bt471 => (some (a0, bt471.1, bt471.2))) else ((awardingbodyref01_Minus.f a3_0 a3_1 a1_0 a1_1).bind fun bt473 => (some (a2, bt473.1, bt473.2)))) = some (r1, r2, r3) := H
    have A18 := Aside0.mk A180
    clear A180
    by_cases c19 : t470 ≥ 0
    · rw [if_pos c19] at H
      have c19b0 : decide (0 ≤ t470) = true := decide_eq_true c19
      clear c19
      replace H := Option.bind_eq_some_iff.mp H
      obtain ⟨⟨t471, t472⟩, A200, H⟩ := H
      replace H : (some (a0, t471, t472)) = some (r1, r2, r3) := H
      have A20 := Aside0.mk A200
      clear A200
      simp only [Option.some.injEq, Prod.mk.injEq] at H
      obtain ⟨rfl, rfl, rfl⟩ := H
      obtain ⟨hnb21, hnc21⟩ := n2 NB465_466
      obtain ⟨hnb22, hnc22⟩ := n2 NB465_467
      have hcz23_0 : w8.cell? ⟨gb465, 0, none⟩ = some (.int .u64 a1_0) := (blk_cell BK465.out 0).trans rfl
      have hcz23_1 : w8.cell? ⟨gb465, 1, none⟩ = some (.int .u64 a1_1) := (blk_cell BK465.out 1).trans rfl
      have hfz23_0 := blk_frozen BK465.out 0
      have hfz23_1 := blk_frozen BK465.out 1
      obtain ⟨hnb24, hnc24⟩ := n2 NB466_467
      have hcz25_0 : w8.cell? ⟨gb466, 0, none⟩ = some (.int .u64 a3_0) := (blk_cell BK466.out 0).trans rfl
      have hcz25_1 : w8.cell? ⟨gb466, 1, none⟩ = some (.int .u64 a3_1) := (blk_cell BK466.out 1).trans rfl
      have hfz25_0 := blk_frozen BK466.out 0
      have hfz25_1 := blk_frozen BK466.out 1
      go_wp2_with (first | ((with_reducible refine gate_callee (f := 70) rfl ?_); refine goesL_ (some 19) rfl rfl Try.func70 (by kernel_rfl) rfl #[.agg #[.int .u64 a1_0, .int .u64 a1_1], .agg #[.int .u64 a3_0, .int .u64 a3_1]] rfl (by (try simp only [List.map_toArray, List.map_cons, List.map_nil]); first | done | rfl | (simp only [List.length_drop, List.length_take]; rfl)) ?_; (with_reducible refine (awardingbodyref01_Order.calls k a1_0 a1_1 a3_0 a3_1 t470 _ A18.out).mono ?_); rintro e w26 ⟨rfl, hb⟩; refine ⟨_, rfl, ?_⟩; replace BK465 := kb BK465 hb; replace BK466 := kb BK466 hb; replace BK467 := kb BK467 hb; replace HB := wb HB hb; (try clear hb); (try clear hb2); (try clear hk); (try clear hi); have hcz27_0 : w26.cell? ⟨gb465, 0, none⟩ = some (.int .u64 a1_0) := (blk_cell BK465.out 0).trans rfl; have hcz27_1 : w26.cell? ⟨gb465, 1, none⟩ = some (.int .u64 a1_1) := (blk_cell BK465.out 1).trans rfl; have hfz27_0 := blk_frozen BK465.out 0; have hfz27_1 := blk_frozen BK465.out 1; have hcz28_0 : w26.cell? ⟨gb466, 0, none⟩ = some (.int .u64 a3_0) := (blk_cell BK466.out 0).trans rfl; have hcz28_1 : w26.cell? ⟨gb466, 1, none⟩ = some (.int .u64 a3_1) := (blk_cell BK466.out 1).trans rfl; have hfz28_0 := blk_frozen BK466.out 0; have hfz28_1 := blk_frozen BK466.out 1) | ((with_reducible refine gate_callee (f := 71) rfl ?_); refine goesL_ (some 24) rfl rfl Try.func71 (by kernel_rfl) rfl #[.agg #[.int .u64 a1_0, .int .u64 a1_1], .agg #[.int .u64 a3_0, .int .u64 a3_1]] rfl (by (try simp only [List.map_toArray, List.map_cons, List.map_nil]); first | done | rfl | (simp only [List.length_drop, List.length_take]; rfl)) ?_; (with_reducible refine (awardingbodyref01_Minus.calls a1_0 a1_1 a3_0 a3_1 t471 t472 _ A20.out).mono ?_); rintro e w29 ⟨rfl, hb⟩; refine ⟨_, rfl, ?_⟩; replace BK465 := kb BK465 hb; replace BK466 := kb BK466 hb; replace BK467 := kb BK467 hb; replace HB := wb HB hb; (try clear hb); (try clear hb2); (try clear hk); (try clear hi); have hcz30_0 : w29.cell? ⟨gb467, 0, none⟩ = some (.int .u64 0) := (blk_cell BK467.out 0).trans rfl; have hcz30_1 : w29.cell? ⟨gb467, 1, none⟩ = some (.int .u64 0) := (blk_cell BK467.out 1).trans rfl; have hfz30_0 := blk_frozen BK467.out 0; have hfz30_1 := blk_frozen BK467.out 1))
      refine bodyPost_ret (results_tc rfl _ _ gb467 61 #[.int .u64 t471, .int .u64 t472] (0, 0) _ rfl (by refine pe ?_; refine blk_put (cs := #[.int .u64 t471, .int .u64 0]) ?_ 1 _ rfl; refine pe ?_; refine blk_put (cs := #[.int .u64 0, .int .u64 0]) ?_ 0 _ rfl; refine pe ?_; exact BK467.out) Try.underlying61 rfl (by kernel_rfl)) rfl ?_
      exact ⟨by first | rfl | (simp [errW_none, errW_some] <;> rfl) | (simp [*, errW_none, errW_some] <;> rfl), bw HB⟩
    · rw [if_neg c19] at H
      have c19b0 : decide (0 ≤ t470) = false := decide_eq_false c19
      clear c19
      replace H := Option.bind_eq_some_iff.mp H
      obtain ⟨⟨t473, t474⟩, A310, H⟩ := H
      replace H : (some (a2, t473, t474)) = some (r1, r2, r3) := H
      have A31 := Aside0.mk A310
      clear A310
      simp only [Option.some.injEq, Prod.mk.injEq] at H
      obtain ⟨rfl, rfl, rfl⟩ := H
      obtain ⟨hnb32, hnc32⟩ := n2 NB465_466
      obtain ⟨hnb33, hnc33⟩ := n2 NB465_467
      have hcz34_0 : w8.cell? ⟨gb465, 0, none⟩ = some (.int .u64 a1_0) := (blk_cell BK465.out 0).trans rfl
      have hcz34_1 : w8.cell? ⟨gb465, 1, none⟩ = some (.int .u64 a1_1) := (blk_cell BK465.out 1).trans rfl
      have hfz34_0 := blk_frozen BK465.out 0
      have hfz34_1 := blk_frozen BK465.out 1
      obtain ⟨hnb35, hnc35⟩ := n2 NB466_467
      have hcz36_0 : w8.cell? ⟨gb466, 0, none⟩ = some (.int .u64 a3_0) := (blk_cell BK466.out 0).trans rfl
      have hcz36_1 : w8.cell? ⟨gb466, 1, none⟩ = some (.int .u64 a3_1) := (blk_cell BK466.out 1).trans rfl
      have hfz36_0 := blk_frozen BK466.out 0
      have hfz36_1 := blk_frozen BK466.out 1
      go_wp2_with (first | ((with_reducible refine gate_callee (f := 70) rfl ?_); refine goesL_ (some 19) rfl rfl Try.func70 (by kernel_rfl) rfl #[.agg #[.int .u64 a1_0, .int .u64 a1_1], .agg #[.int .u64 a3_0, .int .u64 a3_1]] rfl (by (try simp only [List.map_toArray, List.map_cons, List.map_nil]); first | done | rfl | (simp only [List.length_drop, List.length_take]; rfl)) ?_; (with_reducible refine (awardingbodyref01_Order.calls k a1_0 a1_1 a3_0 a3_1 t470 _ A18.out).mono ?_); rintro e w37 ⟨rfl, hb⟩; refine ⟨_, rfl, ?_⟩; replace BK465 := kb BK465 hb; replace BK466 := kb BK466 hb; replace BK467 := kb BK467 hb; replace HB := wb HB hb; (try clear hb); (try clear hb2); (try clear hk); (try clear hi); have hcz38_0 : w37.cell? ⟨gb466, 0, none⟩ = some (.int .u64 a3_0) := (blk_cell BK466.out 0).trans rfl; have hcz38_1 : w37.cell? ⟨gb466, 1, none⟩ = some (.int .u64 a3_1) := (blk_cell BK466.out 1).trans rfl; have hfz38_0 := blk_frozen BK466.out 0; have hfz38_1 := blk_frozen BK466.out 1; have hcz39_0 : w37.cell? ⟨gb465, 0, none⟩ = some (.int .u64 a1_0) := (blk_cell BK465.out 0).trans rfl; have hcz39_1 : w37.cell? ⟨gb465, 1, none⟩ = some (.int .u64 a1_1) := (blk_cell BK465.out 1).trans rfl; have hfz39_0 := blk_frozen BK465.out 0; have hfz39_1 := blk_frozen BK465.out 1) | ((with_reducible refine gate_callee (f := 71) rfl ?_); refine goesL_ (some 28) rfl rfl Try.func71 (by kernel_rfl) rfl #[.agg #[.int .u64 a3_0, .int .u64 a3_1], .agg #[.int .u64 a1_0, .int .u64 a1_1]] rfl (by (try simp only [List.map_toArray, List.map_cons, List.map_nil]); first | done | rfl | (simp only [List.length_drop, List.length_take]; rfl)) ?_; (with_reducible refine (awardingbodyref01_Minus.calls a3_0 a3_1 a1_0 a1_1 t473 t474 _ A31.out).mono ?_); rintro e w40 ⟨rfl, hb⟩; refine ⟨_, rfl, ?_⟩; replace BK465 := kb BK465 hb; replace BK466 := kb BK466 hb; replace BK467 := kb BK467 hb; replace HB := wb HB hb; (try clear hb); (try clear hb2); (try clear hk); (try clear hi); have hcz41_0 : w40.cell? ⟨gb467, 0, none⟩ = some (.int .u64 0) := (blk_cell BK467.out 0).trans rfl; have hcz41_1 : w40.cell? ⟨gb467, 1, none⟩ = some (.int .u64 0) := (blk_cell BK467.out 1).trans rfl; have hfz41_0 := blk_frozen BK467.out 0; have hfz41_1 := blk_frozen BK467.out 1))
      refine bodyPost_ret (results_tc rfl _ _ gb467 61 #[.int .u64 t473, .int .u64 t474] (0, 0) _ rfl (by refine pe ?_; refine blk_put (cs := #[.int .u64 t473, .int .u64 0]) ?_ 1 _ rfl; refine pe ?_; refine blk_put (cs := #[.int .u64 0, .int .u64 0]) ?_ 0 _ rfl; refine pe ?_; exact BK467.out) Try.underlying61 rfl (by kernel_rfl)) rfl ?_
      exact ⟨by first | rfl | (simp [errW_none, errW_some] <;> rfl) | (simp [*, errW_none, errW_some] <;> rfl), bw HB⟩

end Go.Proofs.Ytcbohbeipgcfhaa.G
