/- Texts of this claim laid together: Gf41, Gf42, Gf11. -/
import Derived.Test.YtcbohbeipgcfhaaG0
import Derived.Test.YtcbohbeipgcfhaaZAdn6
import Derived.Test.YtcbohbeipgcfhaaZAdn8
import Derived.Test.YtcbohbeipgcfhaaZAdn9
import Derived.Test.YtcbohbeipgcfhaaZAdn10
import Derived.Test.YtcbohbeipgcfhaaGe0
import Derived.Test.YtcbohbeipgcfhaaZAdn2
-- Printed by gp.py (a program of this session's own, over the kit's printer) out of the translation; Lean checks it.
namespace Go.Proofs.Ytcbohbeipgcfhaa.G
open Go.Proofs.Ytcbohbeipgcfhaa.Given Go.Proofs.Ytcbohbeipgcfhaa.Short
open Go.RowKit Go.Proofs.YtcbohbeipgcfhaaW.PrintWords Go.Proofs.YtcbohbeipgcfhaaW.PrintLast Go.Proofs.YtcbohbeipgcfhaaW.PrintMore
attribute [local go_sem] max2_int min2_int max_two min_two max_three min_three max_four min_four   -- for this text's walks alone
set_option linter.unusedVariables false
set_option linter.unusedSimpArgs false

/-! ### ratio_Sub: function 41 -/
def ratio_Sub.f (k : Nat) (a0_0 : Int) (a0_1 : Int) (a1_0 : Int) (a1_1 : Int) : Option (Int × Int × Int) := (ratio_Valid.f k a0_0 a0_1).bind fun t729 => (if t729 = true then ((ratio_Valid.f k a1_0 a1_1).bind fun t730 => (if t730 = true then ((ratio_Add.f k a0_0 a0_1 (wrap64 (-a1_0)) a1_1).bind fun bt731 => (some (bt731.1, bt731.2.1, bt731.2.2))) else (some (0, 0, 1)))) else (some (0, 0, 1)))
theorem ratio_Sub.mono : ∀ a0 a1 a2 a3 k, LeO (ratio_Sub.f k a0 a1 a2 a3) (ratio_Sub.f (k + 1) a0 a1 a2 a3) := by
 intro a0 a1 a2 a3 k
 unfold ratio_Sub.f
 repeat' first
   | (with_reducible exact ratio_Add.mono _ _ _ _ _)
   | (with_reducible exact ratio_Valid.mono _ _ _)
   | (with_reducible exact LeO.refl _)
   | (with_reducible exact LeO.none _)
   | (with_reducible refine LeO.ite ?_ ?_)
   | (with_reducible refine LeO.bind ?_ (fun _ => ?_))
   | exact ratio_Add.mono _ _ _ _ _
   | exact ratio_Valid.mono _ _ _
   | exact LeO.none _
   | refine LeO.ite ?_ ?_
   | refine LeO.bind ?_ (fun _ => ?_)
set_option maxHeartbeats 8000000 in
set_option maxRecDepth 100000 in
theorem ratio_Sub.calls (k : Nat) (a0_0 : Int) (a0_1 : Int) (a1_0 : Int) (a1_1 : Int) (r1 : Int) (r2 : Int) (r3 : Int) (w : World) (h : ratio_Sub.f k a0_0 a0_1 a1_0 a1_1 = some (r1, r2, r3)) :
  Calls Try.prog 41 #[.agg #[.int .i64 a0_0, .int .i64 a0_1], .agg #[.int .i64 a1_0, .int .i64 a1_1]] w fun e w' => e = .returned (.tuple #[.agg #[.int .i64 r1, .int .i64 r2], .int .i64 r3]) ∧ Below w.heap.size w w' := by
 have hu35 := Try.underlying35
 have HB := Aside0.mk (Below.refl w.heap.size w)
 have H : ((ratio_Valid.f k a0_0 a0_1).bind fun t729 => (if t729 = true then ((ratio_Valid.f k a1_0 a1_1).bind fun t730 => (if t730 = true then ((ratio_Add.f k a0_0 a0_1 (wrap64 (-a1_0)) a1_1).bind fun bt731 => (some (bt731.1, bt731.2.1, bt731.2.2))) else (some (0, 0, 1)))) else (some (0, 0, 1)))) = some (r1, r2, r3) := h
 clear h
 have HC3 := Aside0.mk H
 clear H
 go_enter Try.func41, Try.ntmps41
 go_upto_region 1 with (first | ((with_reducible refine gate_dst (N := 2) rfl ?_); refine box_event ?hg (N := 2) ?hd (cs := #[.int .i64 a0_0, .int .i64 a0_1]) (t := 35) ?hr ?_; (case hd => rfl); (case hg => rfl); (case hr => first | (go_simp; done) | (go_simp; rfl)); intro gb726 hg w4 hbox hb; have BK726 := Aside0.mk (hbox); have GW726 := gs HB hg; have GE726 := gs HB hg; replace HB := wb HB hb; clear hb hbox hg) | ((with_reducible refine gate_dst (N := 3) rfl ?_); refine box_event ?hg (N := 3) ?hd (cs := #[.int .i64 a1_0, .int .i64 a1_1]) (t := 35) ?hr ?_; (case hd => rfl); (case hg => rfl); (case hr => first | (go_simp; done) | (go_simp; rfl)); intro gb727 hg w5 hbox hb; have BK727 := Aside0.mk (hbox); have GW727 := gs HB hg; have GE727 := gs HB hg; have NB726_727 := nl BK726 hg; have NB727_726 := nr BK726 hg; replace BK726 := kb BK726 hb; replace HB := wb HB hb; clear hb hbox hg) | ((with_reducible refine gate_dst (N := 4) rfl ?_); refine box_event ?hg (N := 4) ?hd (cs := #[.int .i64 0, .int .i64 0]) (t := 35) ?hr ?_; (case hd => rfl); (case hg => rfl); (case hr => first | (go_simp; done) | (go_simp; rfl)); intro gb728 hg w6 hbox hb; have BK728 := Aside0.mk (hbox); have GW728 := gs HB hg; have GE728 := gs HB hg; have NB726_728 := nl BK726 hg; have NB728_726 := nr BK726 hg; have NB727_728 := nl BK727 hg; have NB728_727 := nr BK727 hg; replace BK726 := kb BK726 hb; replace BK727 := kb BK727 hb; replace HB := wb HB hb; clear hb hbox hg))
 (try simp only [Act.put, List.setIfInBounds_toArray, List.set_cons_zero, List.set_cons_succ])
 have H := HC3.out
 clear HC3
 replace H := Option.bind_eq_some_iff.mp H
 obtain ⟨t729, A70, H⟩ := H
 replace H : (if t729 = true then ((ratio_Valid.f k a1_0 a1_1).bind fun t730 => (if t730 = true then ((ratio_Add.f k a0_0 a0_1 (wrap64 (-a1_0)) a1_1).bind fun bt731 => (some (bt731.1, bt731.2.1, bt731.2.2))) else (some (0, 0, 1)))) else (some (0, 0, 1))) = some (r1, r2, r3) := H
 have A7 := Aside0.mk A70
 clear A70
 by_cases c8 : t729 = true
 ·subst c8
  have H1 : ((ratio_Valid.f k a1_0 a1_1).bind fun t730 => (if t730 = true then ((ratio_Add.f k a0_0 a0_1 (wrap64 (-a1_0)) a1_1).bind fun bt731 => (some (bt731.1, bt731.2.1, bt731.2.2))) else (some (0, 0, 1)))) = some (r1, r2, r3) := by rw [if_pos rfl] at H; exact H
  clear H
  have H := H1
  clear H1
  replace H := Option.bind_eq_some_iff.mp H
  obtain ⟨t730, A90, H⟩ := H
  replace H : (if t730 = true then ((ratio_Add.f k a0_0 a0_1 (wrap64 (-a1_0)) a1_1).bind fun bt731 => (some (bt731.1, bt731.2.1, bt731.2.2))) else (some (0, 0, 1))) = some (r1, r2, r3) := H
  have A9 := Aside0.mk A90
  clear A90
  have HC10 := Aside0.mk H
  clear H
  obtain ⟨hnb11, hnc11⟩ := n2 NB726_727
  obtain ⟨hnb12, hnc12⟩ := n2 NB726_728
  have hcz13_0 : w6.cell? ⟨gb726, 0, none⟩ = some (.int .i64 a0_0) := (blk_cell BK726.out 0).trans rfl
  have hcz13_1 : w6.cell? ⟨gb726, 1, none⟩ = some (.int .i64 a0_1) := (blk_cell BK726.out 1).trans rfl
  have hfz13_0 := blk_frozen BK726.out 0
  have hfz13_1 := blk_frozen BK726.out 1
  go_upto_if 13 with (first | ((with_reducible refine gate_callee (f := 24) rfl ?_); refine goesL_ (some 7) rfl rfl Try.func24 (by kernel_rfl) rfl #[.agg #[.int .i64 a0_0, .int .i64 a0_1]] rfl (by (try simp only [List.map_toArray, List.map_cons, List.map_nil]); first | done | rfl | (simp only [List.length_drop, List.length_take]; rfl)) ?_; (with_reducible refine (ratio_Valid.calls k a0_0 a0_1 true _ A7.out).mono ?_); rintro e w14 ⟨rfl, hb⟩; refine ⟨_, rfl, ?_⟩; replace BK726 := kb BK726 hb; replace BK727 := kb BK727 hb; replace BK728 := kb BK728 hb; replace HB := wb HB hb; (try clear hb); (try clear hb2); (try clear hk); (try clear hi); obtain ⟨hnb15, hnc15⟩ := n2 NB727_728; have hcz16_0 : w14.cell? ⟨gb727, 0, none⟩ = some (.int .i64 a1_0) := (blk_cell BK727.out 0).trans rfl; have hcz16_1 : w14.cell? ⟨gb727, 1, none⟩ = some (.int .i64 a1_1) := (blk_cell BK727.out 1).trans rfl; have hfz16_0 := blk_frozen BK727.out 0; have hfz16_1 := blk_frozen BK727.out 1) | (go_at_call 24; (with_reducible refine (ratio_Valid.calls k a1_0 a1_1 t730 _ A9.out).mono ?_); rintro e w17 ⟨rfl, hb⟩; replace BK726 := kb BK726 hb; replace BK727 := kb BK727 hb; replace BK728 := kb BK728 hb; replace HB := wb HB hb; (try clear hb); (try clear hb2); (try clear hk); (try clear hi)))
  (try simp only [Act.put, List.setIfInBounds_toArray, List.set_cons_zero, List.set_cons_succ])
  have H := HC10.out
  clear HC10
  by_cases c18 : t730 = true
  ·subst c18
   have H1 : ((ratio_Add.f k a0_0 a0_1 (wrap64 (-a1_0)) a1_1).bind fun bt731 => (some (bt731.1, bt731.2.1, bt731.2.2))) = some (r1, r2, r3) := by rw [if_pos rfl] at H; exact H
   clear H
   have H := H1
   clear H1
   replace H := Option.bind_eq_some_iff.mp H
   obtain ⟨⟨t731, t732, t733⟩, A190, H⟩ := H
   replace H : (some (t731, t732, t733)) = some (r1, r2, r3) := H
   have A19 := Aside0.mk A190
   clear A190
   simp only [Option.some.injEq, Prod.mk.injEq] at H
   obtain ⟨rfl, rfl, rfl⟩ := H
   obtain ⟨hnb20, hnc20⟩ := n2 NB726_727
   obtain ⟨hnb21, hnc21⟩ := n2 NB726_728
   have hcz22_0 : w17.cell? ⟨gb726, 0, none⟩ = some (.int .i64 a0_0) := (blk_cell BK726.out 0).trans rfl
   have hcz22_1 : w17.cell? ⟨gb726, 1, none⟩ = some (.int .i64 a0_1) := (blk_cell BK726.out 1).trans rfl
   have hfz22_0 := blk_frozen BK726.out 0
   have hfz22_1 := blk_frozen BK726.out 1
   obtain ⟨hnb23, hnc23⟩ := n2 NB727_728
   have hcz24_0 : w17.cell? ⟨gb727, 0, none⟩ = some (.int .i64 a1_0) := (blk_cell BK727.out 0).trans rfl
   have hcz24_1 : w17.cell? ⟨gb727, 1, none⟩ = some (.int .i64 a1_1) := (blk_cell BK727.out 1).trans rfl
   have hfz24_0 := blk_frozen BK727.out 0
   have hfz24_1 := blk_frozen BK727.out 1
   go_wp2_with (first | ((with_reducible refine gate_callee (f := 39) rfl ?_); refine goesL_ (some 22) rfl rfl Try.func39 (by kernel_rfl) rfl #[.agg #[.int .i64 a0_0, .int .i64 a0_1], .agg #[.int .i64 (wrap64 (-a1_0)), .int .i64 a1_1]] rfl (by (try simp only [List.map_toArray, List.map_cons, List.map_nil]); first | done | rfl | (simp only [List.length_drop, List.length_take]; rfl)) ?_; (with_reducible refine (ratio_Add.calls k a0_0 a0_1 (wrap64 (-a1_0)) a1_1 t731 t732 t733 _ A19.out).mono ?_); rintro e w25 ⟨rfl, hb⟩; refine ⟨_, rfl, ?_⟩; replace BK726 := kb BK726 hb; replace BK727 := kb BK727 hb; replace BK728 := kb BK728 hb; replace HB := wb HB hb; (try clear hb); (try clear hb2); (try clear hk); (try clear hi); have hcz26_0 : w25.cell? ⟨gb728, 0, none⟩ = some (.int .i64 0) := (blk_cell BK728.out 0).trans rfl; have hcz26_1 : w25.cell? ⟨gb728, 1, none⟩ = some (.int .i64 0) := (blk_cell BK728.out 1).trans rfl; have hfz26_0 := blk_frozen BK728.out 0; have hfz26_1 := blk_frozen BK728.out 1))
   refine bodyPost_ret (results_ct rfl _ _ gb728 35 #[.int .i64 t731, .int .i64 t732] (0, 0) _ rfl (by refine pe ?_; refine blk_put (cs := #[.int .i64 t731, .int .i64 0]) ?_ 1 _ rfl; refine pe ?_; refine blk_put (cs := #[.int .i64 0, .int .i64 0]) ?_ 0 _ rfl; refine pe ?_; exact BK728.out) Try.underlying35 rfl (by kernel_rfl)) rfl ?_
   exact ⟨by first | rfl | (simp [errW_none, errW_some] <;> rfl) | (simp [*, errW_none, errW_some] <;> rfl), bw HB⟩
  ·replace c18 := Bool.eq_false_iff.mpr c18
   subst c18
   have H1 : (some (0, 0, 1)) = some (r1, r2, r3) := by rw [if_neg (show ¬ (false = true) by decide)] at H; exact H
   clear H
   have H := H1
   clear H1
   simp only [Option.some.injEq, Prod.mk.injEq] at H
   obtain ⟨rfl, rfl, rfl⟩ := H
   obtain ⟨hnb27, hnc27⟩ := n2 NB728_726
   obtain ⟨hnb28, hnc28⟩ := n2 NB728_727
   have hcz29_0 : w17.cell? ⟨gb728, 0, none⟩ = some (.int .i64 0) := (blk_cell BK728.out 0).trans rfl
   have hcz29_1 : w17.cell? ⟨gb728, 1, none⟩ = some (.int .i64 0) := (blk_cell BK728.out 1).trans rfl
   have hfz29_0 := blk_frozen BK728.out 0
   have hfz29_1 := blk_frozen BK728.out 1
   go_wp2
   refine bodyPost_ret (results_ct rfl _ _ gb728 35 #[.int .i64 0, .int .i64 0] (0, 0) _ rfl (by refine pe ?_; refine blk_put (cs := #[.int .i64 0, .int .i64 0]) ?_ 1 _ rfl; refine pe ?_; refine blk_put (cs := #[.int .i64 0, .int .i64 0]) ?_ 0 _ rfl; refine pe ?_; exact BK728.out) Try.underlying35 rfl (by kernel_rfl)) rfl ?_
   exact ⟨by first | rfl | (simp [errW_none, errW_some] <;> rfl) | (simp [*, errW_none, errW_some] <;> rfl), bw HB⟩
 ·replace c8 := Bool.eq_false_iff.mpr c8
  subst c8
  have H1 : (some (0, 0, 1)) = some (r1, r2, r3) := by rw [if_neg (show ¬ (false = true) by decide)] at H; exact H
  clear H
  have H := H1
  clear H1
  simp only [Option.some.injEq, Prod.mk.injEq] at H
  obtain ⟨rfl, rfl, rfl⟩ := H
  obtain ⟨hnb30, hnc30⟩ := n2 NB726_727
  obtain ⟨hnb31, hnc31⟩ := n2 NB726_728
  have hcz32_0 : w6.cell? ⟨gb726, 0, none⟩ = some (.int .i64 a0_0) := (blk_cell BK726.out 0).trans rfl
  have hcz32_1 : w6.cell? ⟨gb726, 1, none⟩ = some (.int .i64 a0_1) := (blk_cell BK726.out 1).trans rfl
  have hfz32_0 := blk_frozen BK726.out 0
  have hfz32_1 := blk_frozen BK726.out 1
  go_wp2_with (first | ((with_reducible refine gate_callee (f := 24) rfl ?_); refine goesL_ (some 7) rfl rfl Try.func24 (by kernel_rfl) rfl #[.agg #[.int .i64 a0_0, .int .i64 a0_1]] rfl (by (try simp only [List.map_toArray, List.map_cons, List.map_nil]); first | done | rfl | (simp only [List.length_drop, List.length_take]; rfl)) ?_; (with_reducible refine (ratio_Valid.calls k a0_0 a0_1 false _ A7.out).mono ?_); rintro e w33 ⟨rfl, hb⟩; refine ⟨_, rfl, ?_⟩; replace BK726 := kb BK726 hb; replace BK727 := kb BK727 hb; replace BK728 := kb BK728 hb; replace HB := wb HB hb; (try clear hb); (try clear hb2); (try clear hk); (try clear hi); obtain ⟨hnb34, hnc34⟩ := n2 NB728_727; have hcz35_0 : w33.cell? ⟨gb728, 0, none⟩ = some (.int .i64 0) := (blk_cell BK728.out 0).trans rfl; have hcz35_1 : w33.cell? ⟨gb728, 1, none⟩ = some (.int .i64 0) := (blk_cell BK728.out 1).trans rfl; have hfz35_0 := blk_frozen BK728.out 0; have hfz35_1 := blk_frozen BK728.out 1))
  refine bodyPost_ret (results_ct rfl _ _ gb728 35 #[.int .i64 0, .int .i64 0] (0, 0) _ rfl (by refine pe ?_; refine blk_put (cs := #[.int .i64 0, .int .i64 0]) ?_ 1 _ rfl; refine pe ?_; refine blk_put (cs := #[.int .i64 0, .int .i64 0]) ?_ 0 _ rfl; refine pe ?_; exact BK728.out) Try.underlying35 rfl (by kernel_rfl)) rfl ?_
  exact ⟨by first | rfl | (simp [errW_none, errW_some] <;> rfl) | (simp [*, errW_none, errW_some] <;> rfl), bw HB⟩

end Go.Proofs.Ytcbohbeipgcfhaa.G

-- Printed by gp.py (a program of this session's own, over the kit's printer) out of the translation; Lean checks it.
namespace Go.Proofs.Ytcbohbeipgcfhaa.G
open Go.Proofs.Ytcbohbeipgcfhaa.Given Go.Proofs.Ytcbohbeipgcfhaa.Short
open Go.RowKit Go.Proofs.YtcbohbeipgcfhaaW.PrintWords Go.Proofs.YtcbohbeipgcfhaaW.PrintLast Go.Proofs.YtcbohbeipgcfhaaW.PrintMore
attribute [local go_sem] max2_int min2_int max_two min_two max_three min_three max_four min_four   -- for this text's walks alone
set_option linter.unusedVariables false
set_option linter.unusedSimpArgs false

/-! ### awardingbodyref01_Sub: function 42 -/
def awardingbodyref01_Sub.f (k : Nat) (a0_0 : Int) (a0_1 : Int) (a1_0 : Int) (a1_1 : Int) : Option (Int × Int × Int) := (awardingbodyref01_Valid.f k a0_0 a0_1).bind fun t737 => (if t737 = true then ((awardingbodyref01_Valid.f k a1_0 a1_1).bind fun t738 => (if t738 = true then ((awardingbodyref01_Add.f k a0_0 a0_1 (wrap64 (-a1_0)) a1_1).bind fun bt739 => (some (bt739.1, bt739.2.1, bt739.2.2))) else (some (0, 0, 1)))) else (some (0, 0, 1)))
theorem awardingbodyref01_Sub.mono : ∀ a0 a1 a2 a3 k, LeO (awardingbodyref01_Sub.f k a0 a1 a2 a3) (awardingbodyref01_Sub.f (k + 1) a0 a1 a2 a3) := by
 intro a0 a1 a2 a3 k
 unfold awardingbodyref01_Sub.f
 repeat' first
   | (with_reducible exact awardingbodyref01_Add.mono _ _ _ _ _)
   | (with_reducible exact awardingbodyref01_Valid.mono _ _ _)
   | (with_reducible exact LeO.refl _)
   | (with_reducible exact LeO.none _)
   | (with_reducible refine LeO.ite ?_ ?_)
   | (with_reducible refine LeO.bind ?_ (fun _ => ?_))
   | exact awardingbodyref01_Add.mono _ _ _ _ _
   | exact awardingbodyref01_Valid.mono _ _ _
   | exact LeO.none _
   | refine LeO.ite ?_ ?_
   | refine LeO.bind ?_ (fun _ => ?_)
set_option maxHeartbeats 8000000 in
set_option maxRecDepth 100000 in
theorem awardingbodyref01_Sub.calls (k : Nat) (a0_0 : Int) (a0_1 : Int) (a1_0 : Int) (a1_1 : Int) (r1 : Int) (r2 : Int) (r3 : Int) (w : World) (h : awardingbodyref01_Sub.f k a0_0 a0_1 a1_0 a1_1 = some (r1, r2, r3)) :
  Calls Try.prog 42 #[.agg #[.int .i64 a0_0, .int .i64 a0_1], .agg #[.int .i64 a1_0, .int .i64 a1_1]] w fun e w' => e = .returned (.tuple #[.agg #[.int .i64 r1, .int .i64 r2], .int .i64 r3]) ∧ Below w.heap.size w w' := by
 have hu35 := Try.underlying35
 have HB := Aside0.mk (Below.refl w.heap.size w)
 have H : ((awardingbodyref01_Valid.f k a0_0 a0_1).bind fun t737 => (if t737 = true then ((awardingbodyref01_Valid.f k a1_0 a1_1).bind fun t738 => (if t738 = true then ((awardingbodyref01_Add.f k a0_0 a0_1 (wrap64 (-a1_0)) a1_1).bind fun bt739 => (some (bt739.1, bt739.2.1, bt739.2.2))) else (some (0, 0, 1)))) else (some (0, 0, 1)))) = some (r1, r2, r3) := h
 clear h
 have HC3 := Aside0.mk H
 clear H
 go_enter Try.func42, Try.ntmps42
 go_upto_region 1 with (first | ((with_reducible refine gate_dst (N := 2) rfl ?_); refine box_event ?hg (N := 2) ?hd (cs := #[.int .i64 a0_0, .int .i64 a0_1]) (t := 35) ?hr ?_; (case hd => rfl); (case hg => rfl); (case hr => first | (go_simp; done) | (go_simp; rfl)); intro gb734 hg w4 hbox hb; have BK734 := Aside0.mk (hbox); have GW734 := gs HB hg; have GE734 := gs HB hg; replace HB := wb HB hb; clear hb hbox hg) | ((with_reducible refine gate_dst (N := 3) rfl ?_); refine box_event ?hg (N := 3) ?hd (cs := #[.int .i64 a1_0, .int .i64 a1_1]) (t := 35) ?hr ?_; (case hd => rfl); (case hg => rfl); (case hr => first | (go_simp; done) | (go_simp; rfl)); intro gb735 hg w5 hbox hb; have BK735 := Aside0.mk (hbox); have GW735 := gs HB hg; have GE735 := gs HB hg; have NB734_735 := nl BK734 hg; have NB735_734 := nr BK734 hg; replace BK734 := kb BK734 hb; replace HB := wb HB hb; clear hb hbox hg) | ((with_reducible refine gate_dst (N := 4) rfl ?_); refine box_event ?hg (N := 4) ?hd (cs := #[.int .i64 0, .int .i64 0]) (t := 35) ?hr ?_; (case hd => rfl); (case hg => rfl); (case hr => first | (go_simp; done) | (go_simp; rfl)); intro gb736 hg w6 hbox hb; have BK736 := Aside0.mk (hbox); have GW736 := gs HB hg; have GE736 := gs HB hg; have NB734_736 := nl BK734 hg; have NB736_734 := nr BK734 hg; have NB735_736 := nl BK735 hg; have NB736_735 := nr BK735 hg; replace BK734 := kb BK734 hb; replace BK735 := kb BK735 hb; replace HB := wb HB hb; clear hb hbox hg))
 (try simp only [Act.put, List.setIfInBounds_toArray, List.set_cons_zero, List.set_cons_succ])
 have H := HC3.out
 clear HC3
 replace H := Option.bind_eq_some_iff.mp H
 obtain ⟨t737, A70, H⟩ := H
 replace H : (if t737 = true then ((awardingbodyref01_Valid.f k a1_0 a1_1).bind fun t738 => (if t738 = true then ((awardingbodyref01_Add.f k a0_0 a0_1 (wrap64 (-a1_0)) a1_1).bind fun bt739 => (some (bt739.1, bt739.2.1, bt739.2.2))) else (some (0, 0, 1)))) else (some (0, 0, 1))) = some (r1, r2, r3) := H
 have A7 := Aside0.mk A70
 clear A70
 by_cases c8 : t737 = true
 ·subst c8
  have H1 : ((awardingbodyref01_Valid.f k a1_0 a1_1).bind fun t738 => (if t738 = true then ((awardingbodyref01_Add.f k a0_0 a0_1 (wrap64 (-a1_0)) a1_1).bind fun bt739 => (some (bt739.1, bt739.2.1, bt739.2.2))) else (some (0, 0, 1)))) = some (r1, r2, r3) := by rw [if_pos rfl] at H; exact H
  clear H
  have H := H1
  clear H1
  replace H := Option.bind_eq_some_iff.mp H
  obtain ⟨t738, A90, H⟩ := H
  replace H : (if t738 = true then ((awardingbodyref01_Add.f k a0_0 a0_1 (wrap64 (-a1_0)) a1_1).bind fun bt739 => (some (bt739.1, bt739.2.1, bt739.2.2))) else (some (0, 0, 1))) = some (r1, r2, r3) := H
  have A9 := Aside0.mk A90
  clear A90
  have HC10 := Aside0.mk H
  clear H
  obtain ⟨hnb11, hnc11⟩ := n2 NB734_735
  obtain ⟨hnb12, hnc12⟩ := n2 NB734_736
  have hcz13_0 : w6.cell? ⟨gb734, 0, none⟩ = some (.int .i64 a0_0) := (blk_cell BK734.out 0).trans rfl
  have hcz13_1 : w6.cell? ⟨gb734, 1, none⟩ = some (.int .i64 a0_1) := (blk_cell BK734.out 1).trans rfl
  have hfz13_0 := blk_frozen BK734.out 0
  have hfz13_1 := blk_frozen BK734.out 1
  go_upto_if 13 with (first | ((with_reducible refine gate_callee (f := 25) rfl ?_); refine goesL_ (some 7) rfl rfl Try.func25 (by kernel_rfl) rfl #[.agg #[.int .i64 a0_0, .int .i64 a0_1]] rfl (by (try simp only [List.map_toArray, List.map_cons, List.map_nil]); first | done | rfl | (simp only [List.length_drop, List.length_take]; rfl)) ?_; (with_reducible refine (awardingbodyref01_Valid.calls k a0_0 a0_1 true _ A7.out).mono ?_); rintro e w14 ⟨rfl, hb⟩; refine ⟨_, rfl, ?_⟩; replace BK734 := kb BK734 hb; replace BK735 := kb BK735 hb; replace BK736 := kb BK736 hb; replace HB := wb HB hb; (try clear hb); (try clear hb2); (try clear hk); (try clear hi); obtain ⟨hnb15, hnc15⟩ := n2 NB735_736; have hcz16_0 : w14.cell? ⟨gb735, 0, none⟩ = some (.int .i64 a1_0) := (blk_cell BK735.out 0).trans rfl; have hcz16_1 : w14.cell? ⟨gb735, 1, none⟩ = some (.int .i64 a1_1) := (blk_cell BK735.out 1).trans rfl; have hfz16_0 := blk_frozen BK735.out 0; have hfz16_1 := blk_frozen BK735.out 1) | (go_at_call 25; (with_reducible refine (awardingbodyref01_Valid.calls k a1_0 a1_1 t738 _ A9.out).mono ?_); rintro e w17 ⟨rfl, hb⟩; replace BK734 := kb BK734 hb; replace BK735 := kb BK735 hb; replace BK736 := kb BK736 hb; replace HB := wb HB hb; (try clear hb); (try clear hb2); (try clear hk); (try clear hi)))
  (try simp only [Act.put, List.setIfInBounds_toArray, List.set_cons_zero, List.set_cons_succ])
  have H := HC10.out
  clear HC10
  by_cases c18 : t738 = true
  ·subst c18
   have H1 : ((awardingbodyref01_Add.f k a0_0 a0_1 (wrap64 (-a1_0)) a1_1).bind fun bt739 => (some (bt739.1, bt739.2.1, bt739.2.2))) = some (r1, r2, r3) := by rw [if_pos rfl] at H; exact H
   clear H
   have H := H1
   clear H1
   replace H := Option.bind_eq_some_iff.mp H
   obtain ⟨⟨t739, t740, t741⟩, A190, H⟩ := H
   replace H : (some (t739, t740, t741)) = some (r1, r2, r3) := H
   have A19 := Aside0.mk A190
   clear A190
   simp only [Option.some.injEq, Prod.mk.injEq] at H
   obtain ⟨rfl, rfl, rfl⟩ := H
   obtain ⟨hnb20, hnc20⟩ := n2 NB734_735
   obtain ⟨hnb21, hnc21⟩ := n2 NB734_736
   have hcz22_0 : w17.cell? ⟨gb734, 0, none⟩ = some (.int .i64 a0_0) := (blk_cell BK734.out 0).trans rfl
   have hcz22_1 : w17.cell? ⟨gb734, 1, none⟩ = some (.int .i64 a0_1) := (blk_cell BK734.out 1).trans rfl
   have hfz22_0 := blk_frozen BK734.out 0
   have hfz22_1 := blk_frozen BK734.out 1
   obtain ⟨hnb23, hnc23⟩ := n2 NB735_736
   have hcz24_0 : w17.cell? ⟨gb735, 0, none⟩ = some (.int .i64 a1_0) := (blk_cell BK735.out 0).trans rfl
   have hcz24_1 : w17.cell? ⟨gb735, 1, none⟩ = some (.int .i64 a1_1) := (blk_cell BK735.out 1).trans rfl
   have hfz24_0 := blk_frozen BK735.out 0
   have hfz24_1 := blk_frozen BK735.out 1
   go_wp2_with (first | ((with_reducible refine gate_callee (f := 40) rfl ?_); refine goesL_ (some 22) rfl rfl Try.func40 (by kernel_rfl) rfl #[.agg #[.int .i64 a0_0, .int .i64 a0_1], .agg #[.int .i64 (wrap64 (-a1_0)), .int .i64 a1_1]] rfl (by (try simp only [List.map_toArray, List.map_cons, List.map_nil]); first | done | rfl | (simp only [List.length_drop, List.length_take]; rfl)) ?_; (with_reducible refine (awardingbodyref01_Add.calls k a0_0 a0_1 (wrap64 (-a1_0)) a1_1 t739 t740 t741 _ A19.out).mono ?_); rintro e w25 ⟨rfl, hb⟩; refine ⟨_, rfl, ?_⟩; replace BK734 := kb BK734 hb; replace BK735 := kb BK735 hb; replace BK736 := kb BK736 hb; replace HB := wb HB hb; (try clear hb); (try clear hb2); (try clear hk); (try clear hi); have hcz26_0 : w25.cell? ⟨gb736, 0, none⟩ = some (.int .i64 0) := (blk_cell BK736.out 0).trans rfl; have hcz26_1 : w25.cell? ⟨gb736, 1, none⟩ = some (.int .i64 0) := (blk_cell BK736.out 1).trans rfl; have hfz26_0 := blk_frozen BK736.out 0; have hfz26_1 := blk_frozen BK736.out 1))
   refine bodyPost_ret (results_ct rfl _ _ gb736 35 #[.int .i64 t739, .int .i64 t740] (0, 0) _ rfl (by refine pe ?_; refine blk_put (cs := #[.int .i64 t739, .int .i64 0]) ?_ 1 _ rfl; refine pe ?_; refine blk_put (cs := #[.int .i64 0, .int .i64 0]) ?_ 0 _ rfl; refine pe ?_; exact BK736.out) Try.underlying35 rfl (by kernel_rfl)) rfl ?_
   exact ⟨by first | rfl | (simp [errW_none, errW_some] <;> rfl) | (simp [*, errW_none, errW_some] <;> rfl), bw HB⟩
  ·replace c18 := Bool.eq_false_iff.mpr c18
   subst c18
   have H1 : (some (0, 0, 1)) = some (r1, r2, r3) := by rw [if_neg (show ¬ (false = true) by decide)] at H; exact H
   clear H
   have H := H1
   clear H1
   simp only [Option.some.injEq, Prod.mk.injEq] at H
   obtain ⟨rfl, rfl, rfl⟩ := H
   obtain ⟨hnb27, hnc27⟩ := n2 NB736_734
   obtain ⟨hnb28, hnc28⟩ := n2 NB736_735
   have hcz29_0 : w17.cell? ⟨gb736, 0, none⟩ = some (.int .i64 0) := (blk_cell BK736.out 0).trans rfl
   have hcz29_1 : w17.cell? ⟨gb736, 1, none⟩ = some (.int .i64 0) := (blk_cell BK736.out 1).trans rfl
   have hfz29_0 := blk_frozen BK736.out 0
   have hfz29_1 := blk_frozen BK736.out 1
   go_wp2
   refine bodyPost_ret (results_ct rfl _ _ gb736 35 #[.int .i64 0, .int .i64 0] (0, 0) _ rfl (by refine pe ?_; refine blk_put (cs := #[.int .i64 0, .int .i64 0]) ?_ 1 _ rfl; refine pe ?_; refine blk_put (cs := #[.int .i64 0, .int .i64 0]) ?_ 0 _ rfl; refine pe ?_; exact BK736.out) Try.underlying35 rfl (by kernel_rfl)) rfl ?_
   exact ⟨by first | rfl | (simp [errW_none, errW_some] <;> rfl) | (simp [*, errW_none, errW_some] <;> rfl), bw HB⟩
 ·replace c8 := Bool.eq_false_iff.mpr c8
  subst c8
  have H1 : (some (0, 0, 1)) = some (r1, r2, r3) := by rw [if_neg (show ¬ (false = true) by decide)] at H; exact H
  clear H
  have H := H1
  clear H1
  simp only [Option.some.injEq, Prod.mk.injEq] at H
  obtain ⟨rfl, rfl, rfl⟩ := H
  obtain ⟨hnb30, hnc30⟩ := n2 NB734_735
  obtain ⟨hnb31, hnc31⟩ := n2 NB734_736
  have hcz32_0 : w6.cell? ⟨gb734, 0, none⟩ = some (.int .i64 a0_0) := (blk_cell BK734.out 0).trans rfl
  have hcz32_1 : w6.cell? ⟨gb734, 1, none⟩ = some (.int .i64 a0_1) := (blk_cell BK734.out 1).trans rfl
  have hfz32_0 := blk_frozen BK734.out 0
  have hfz32_1 := blk_frozen BK734.out 1
  go_wp2_with (first | ((with_reducible refine gate_callee (f := 25) rfl ?_); refine goesL_ (some 7) rfl rfl Try.func25 (by kernel_rfl) rfl #[.agg #[.int .i64 a0_0, .int .i64 a0_1]] rfl (by (try simp only [List.map_toArray, List.map_cons, List.map_nil]); first | done | rfl | (simp only [List.length_drop, List.length_take]; rfl)) ?_; (with_reducible refine (awardingbodyref01_Valid.calls k a0_0 a0_1 false _ A7.out).mono ?_); rintro e w33 ⟨rfl, hb⟩; refine ⟨_, rfl, ?_⟩; replace BK734 := kb BK734 hb; replace BK735 := kb BK735 hb; replace BK736 := kb BK736 hb; replace HB := wb HB hb; (try clear hb); (try clear hb2); (try clear hk); (try clear hi); obtain ⟨hnb34, hnc34⟩ := n2 NB736_735; have hcz35_0 : w33.cell? ⟨gb736, 0, none⟩ = some (.int .i64 0) := (blk_cell BK736.out 0).trans rfl; have hcz35_1 : w33.cell? ⟨gb736, 1, none⟩ = some (.int .i64 0) := (blk_cell BK736.out 1).trans rfl; have hfz35_0 := blk_frozen BK736.out 0; have hfz35_1 := blk_frozen BK736.out 1))
  refine bodyPost_ret (results_ct rfl _ _ gb736 35 #[.int .i64 0, .int .i64 0] (0, 0) _ rfl (by refine pe ?_; refine blk_put (cs := #[.int .i64 0, .int .i64 0]) ?_ 1 _ rfl; refine pe ?_; refine blk_put (cs := #[.int .i64 0, .int .i64 0]) ?_ 0 _ rfl; refine pe ?_; exact BK736.out) Try.underlying35 rfl (by kernel_rfl)) rfl ?_
  exact ⟨by first | rfl | (simp [errW_none, errW_some] <;> rfl) | (simp [*, errW_none, errW_some] <;> rfl), bw HB⟩

end Go.Proofs.Ytcbohbeipgcfhaa.G

-- Printed by gp.py (a program of this session's own, over the kit's printer) out of the translation; Lean checks it.
namespace Go.Proofs.Ytcbohbeipgcfhaa.G
open Go.Proofs.Ytcbohbeipgcfhaa.Given Go.Proofs.Ytcbohbeipgcfhaa.Short
open Go.RowKit Go.Proofs.YtcbohbeipgcfhaaW.PrintWords Go.Proofs.YtcbohbeipgcfhaaW.PrintLast Go.Proofs.YtcbohbeipgcfhaaW.PrintMore
attribute [local go_sem] max2_int min2_int max_two min_two max_three min_three max_four min_four   -- for this text's walks alone
set_option linter.unusedVariables false
set_option linter.unusedSimpArgs false

attribute [local go_sem high] eqA35
/-! ### awardingbodylaw01_RatioAdds: function 11 -/
def awardingbodylaw01_RatioAdds.f (k : Nat) (l0 : List Int) : Option (Bool) := (awardingbodymake_New.f l0).bind fun bt742 => ((awardingbodymake_Tape_Loose.f k bt742.1 bt742.2).bind fun bt745 => ((awardingbodymake_Tape_Loose.f k bt742.1 bt745.2.2).bind fun bt748 => ((ratio_Add.f k bt745.1 bt745.2.1 bt748.1 bt748.2.1).bind fun bt753 => ((awardingbodyref01_Add.f k bt745.1 bt745.2.1 bt748.1 bt748.2.1).bind fun bt757 => ((ratio_Sub.f k bt745.1 bt745.2.1 bt748.1 bt748.2.1).bind fun bt761 => ((awardingbodyref01_Sub.f k bt745.1 bt745.2.1 bt748.1 bt748.2.1).bind fun bt765 => (if (bt753.1 == bt757.1 && (bt753.2.1 == bt757.2.1)) = true then (if bt753.2.2 = bt757.2.2 then (if (bt761.1 == bt765.1 && (bt761.2.1 == bt765.2.1)) = true then (if bt761.2.2 = bt765.2.2 then ((awardingbodylaw01_awake.f k).bind fun t769 => (some t769)) else (some false)) else (some false)) else (some false)) else (some false))))))))
theorem awardingbodylaw01_RatioAdds.mono : ∀ a0 k, LeO (awardingbodylaw01_RatioAdds.f k a0) (awardingbodylaw01_RatioAdds.f (k + 1) a0) := by
 intro a0 k
 unfold awardingbodylaw01_RatioAdds.f
 repeat' first
   | (with_reducible exact awardingbodylaw01_awake.mono _)
   | (with_reducible exact awardingbodymake_Tape_Loose.mono _ _ _)
   | (with_reducible exact awardingbodyref01_Add.mono _ _ _ _ _)
   | (with_reducible exact awardingbodyref01_Sub.mono _ _ _ _ _)
   | (with_reducible exact ratio_Add.mono _ _ _ _ _)
   | (with_reducible exact ratio_Sub.mono _ _ _ _ _)
   | (with_reducible exact LeO.refl _)
   | (with_reducible exact LeO.none _)
   | (with_reducible refine LeO.ite ?_ ?_)
   | (with_reducible refine LeO.bind ?_ (fun _ => ?_))
   | exact awardingbodylaw01_awake.mono _
   | exact awardingbodymake_Tape_Loose.mono _ _ _
   | exact awardingbodyref01_Add.mono _ _ _ _ _
   | exact awardingbodyref01_Sub.mono _ _ _ _ _
   | exact ratio_Add.mono _ _ _ _ _
   | exact ratio_Sub.mono _ _ _ _ _
   | exact LeO.none _
   | refine LeO.ite ?_ ?_
   | refine LeO.bind ?_ (fun _ => ?_)
set_option maxHeartbeats 8000000 in
set_option maxRecDepth 100000 in
theorem awardingbodylaw01_RatioAdds.calls (k : Nat) (A0 : Option Addr) (c0 : Nat) (l0 : List Int) (r : Bool) (w : World) (hr0 : Kd.C (Kd.int .i64) w A0 l0.length l0) (hc0 : l0.length ≤ c0) (h : awardingbodylaw01_RatioAdds.f k l0 = some r) :
  Calls Try.prog 11 #[.slice A0 l0.length c0] w fun e w' => e = .returned (.bool r) ∧ Below w.heap.size w w' := by
 have hu35 := Try.underlying35
 have HR0 := Aside0.mk hr0
 have HC0 := Aside0.mk hc0
 clear hr0 hc0
 have HB := Aside0.mk (Below.refl w.heap.size w)
 have H : ((awardingbodymake_New.f l0).bind fun bt742 => ((awardingbodymake_Tape_Loose.f k bt742.1 bt742.2).bind fun bt745 => ((awardingbodymake_Tape_Loose.f k bt742.1 bt745.2.2).bind fun bt748 => ((ratio_Add.f k bt745.1 bt745.2.1 bt748.1 bt748.2.1).bind fun bt753 => ((awardingbodyref01_Add.f k bt745.1 bt745.2.1 bt748.1 bt748.2.1).bind fun bt757 => ((ratio_Sub.f k bt745.1 bt745.2.1 bt748.1 bt748.2.1).bind fun bt761 => ((awardingbodyref01_Sub.f k bt745.1 bt745.2.1 bt748.1 bt748.2.1).bind fun bt765 => (if (bt753.1 == bt757.1 && (bt753.2.1 == bt757.2.1)) = true then (if bt753.2.2 = bt757.2.2 then (if (bt761.1 == bt765.1 && (bt761.2.1 == bt765.2.1)) = true then (if bt761.2.2 = bt765.2.2 then ((awardingbodylaw01_awake.f k).bind fun t769 => (some t769)) else (some false)) else (some false)) else (some false)) else (some false))))))))) = some r := h
 clear h
 replace H := Option.bind_eq_some_iff.mp H
 obtain ⟨⟨t742, t743⟩, A20, H⟩ := H
 replace H : ((awardingbodymake_Tape_Loose.f k t742 t743).bind fun bt745 => ((awardingbodymake_Tape_Loose.f k t742 bt745.2.2).bind fun bt748 => ((ratio_Add.f k bt745.1 bt745.2.1 bt748.1 bt748.2.1).bind fun bt753 => ((awardingbodyref01_Add.f k bt745.1 bt745.2.1 bt748.1 bt748.2.1).bind fun bt757 => ((ratio_Sub.f k bt745.1 bt745.2.1 bt748.1 bt748.2.1).bind fun bt761 => ((awardingbodyref01_Sub.f k bt745.1 bt745.2.1 bt748.1 bt748.2.1).bind fun bt765 => (if (bt753.1 == bt757.1 && (bt753.2.1 == bt757.2.1)) = true then (if bt753.2.2 = bt757.2.2 then (if (bt761.1 == bt765.1 && (bt761.2.1 == bt765.2.1)) = true then (if bt761.2.2 = bt765.2.2 then ((awardingbodylaw01_awake.f k).bind fun t769 => (some t769)) else (some false)) else (some false)) else (some false)) else (some false)))))))) = some r := H
 have A2 := Aside0.mk A20
 clear A20
 replace H := Option.bind_eq_some_iff.mp H
 obtain ⟨⟨t745, t746, t747⟩, A30, H⟩ := H
 replace H : ((awardingbodymake_Tape_Loose.f k t742 t747).bind fun bt748 => ((ratio_Add.f k t745 t746 bt748.1 bt748.2.1).bind fun bt753 => ((awardingbodyref01_Add.f k t745 t746 bt748.1 bt748.2.1).bind fun bt757 => ((ratio_Sub.f k t745 t746 bt748.1 bt748.2.1).bind fun bt761 => ((awardingbodyref01_Sub.f k t745 t746 bt748.1 bt748.2.1).bind fun bt765 => (if (bt753.1 == bt757.1 && (bt753.2.1 == bt757.2.1)) = true then (if bt753.2.2 = bt757.2.2 then (if (bt761.1 == bt765.1 && (bt761.2.1 == bt765.2.1)) = true then (if bt761.2.2 = bt765.2.2 then ((awardingbodylaw01_awake.f k).bind fun t769 => (some t769)) else (some false)) else (some false)) else (some false)) else (some false))))))) = some r := H
 have A3 := Aside0.mk A30
 clear A30
 replace H := Option.bind_eq_some_iff.mp H
 obtain ⟨⟨t748, t749, t750⟩, A40, H⟩ := H
 replace H : ((ratio_Add.f k t745 t746 t748 t749).bind fun bt753 => ((awardingbodyref01_Add.f k t745 t746 t748 t749).bind fun bt757 => ((ratio_Sub.f k t745 t746 t748 t749).bind fun bt761 => ((awardingbodyref01_Sub.f k t745 t746 t748 t749).bind fun bt765 => (if (bt753.1 == bt757.1 && (bt753.2.1 == bt757.2.1)) = true then (if bt753.2.2 = bt757.2.2 then (if (bt761.1 == bt765.1 && (bt761.2.1 == bt765.2.1)) = true then (if bt761.2.2 = bt765.2.2 then ((awardingbodylaw01_awake.f k).bind fun t769 => (some t769)) else (some false)) else (some false)) else (some false)) else (some false)))))) = some r := H
 have A4 := Aside0.mk A40
 clear A40
 replace H := Option.bind_eq_some_iff.mp H
 obtain ⟨⟨t753, t754, t755⟩, A50, H⟩ := H
 replace H : ((awardingbodyref01_Add.f k t745 t746 t748 t749).bind fun bt757 => ((ratio_Sub.f k t745 t746 t748 t749).bind fun bt761 => ((awardingbodyref01_Sub.f k t745 t746 t748 t749).bind fun bt765 => (if (t753 == bt757.1 && (t754 == bt757.2.1)) = true then (if t755 = bt757.2.2 then (if (bt761.1 == bt765.1 && (bt761.2.1 == bt765.2.1)) = true then (if bt761.2.2 = bt765.2.2 then ((awardingbodylaw01_awake.f k).bind fun t769 => (some t769)) else (some false)) else (some false)) else (some false)) else (some false))))) = some r := H
 have A5 := Aside0.mk A50
 clear A50
 replace H := Option.bind_eq_some_iff.mp H
 obtain ⟨⟨t757, t758, t759⟩, A60, H⟩ := H
 replace H : ((ratio_Sub.f k t745 t746 t748 t749).bind fun bt761 => ((awardingbodyref01_Sub.f k t745 t746 t748 t749).bind fun bt765 => (if (t753 == t757 && (t754 == t758)) = true then (if t755 = t759 then (if (bt761.1 == bt765.1 && (bt761.2.1 == bt765.2.1)) = true then (if bt761.2.2 = bt765.2.2 then ((awardingbodylaw01_awake.f k).bind fun t769 => (some t769)) else (some false)) else (some false)) else (some false)) else (some false)))) = some r := H
 have A6 := Aside0.mk A60
 clear A60
 replace H := Option.bind_eq_some_iff.mp H
 obtain ⟨⟨t761, t762, t763⟩, A70, H⟩ := H
 replace H : ((awardingbodyref01_Sub.f k t745 t746 t748 t749).bind fun bt765 => (if (t753 == t757 && (t754 == t758)) = true then (if t755 = t759 then (if (t761 == bt765.1 && (t762 == bt765.2.1)) = true then (if t763 = bt765.2.2 then ((awardingbodylaw01_awake.f k).bind fun t769 => (some t769)) else (some false)) else (some false)) else (some false)) else (some false))) = some r := H
 have A7 := Aside0.mk A70
 clear A70
 replace H := Option.bind_eq_some_iff.mp H
 obtain ⟨⟨t765, t766, t767⟩, A80, H⟩ := H
 replace H : (if (t753 == t757 && (t754 == t758)) = true then (if t755 = t759 then (if (t761 == t765 && (t762 == t766)) = true then (if t763 = t767 then ((awardingbodylaw01_awake.f k).bind fun t769 => (some t769)) else (some false)) else (some false)) else (some false)) else (some false)) = some r := H
 have A8 := Aside0.mk A80
 clear A80
 have HC9 := Aside0.mk H
 clear H
 go_enter Try.func11, Try.ntmps11
 go_upto_region 7 with (first | ((with_reducible refine gate_callee (f := 19) rfl ?_); refine goesL_ (some 15) rfl rfl Try.func19 (by kernel_rfl) rfl #[.slice A0 l0.length c0] rfl (by (try simp only [List.map_toArray, List.map_cons, List.map_nil]); first | done | rfl | (simp only [List.length_drop, List.length_take]; rfl)) ?_; (with_reducible refine (awardingbodymake_New.calls _ _ l0 t742 t743 w _ ?side1 ?side2 ?side3 A2.out).mono ?_); (case side1 => repeat (first | (with_reducible first | exact HB.out | apply below_alloc | apply pw_below_drewN | apply below_drew1) | exact HB.out)); (case side2 => exact HR0.out); (case side3 => exact HC0.out); rintro e w10 ⟨g744, rfl, hi, hb, hb2⟩; refine ⟨_, rfl, ?_⟩; have HI744 := Aside0.mk (hi); replace HB := Aside0.mk (hb); (try clear hb); (try clear hb2); (try clear hk); (try clear hi)) | ((with_reducible refine gate_callee (f := 26) rfl ?_); refine goesL_ (some 17) rfl rfl Try.func26 (by kernel_rfl) rfl #[.pointer (some ⟨g744, 0, none⟩)] rfl (by (try simp only [List.map_toArray, List.map_cons, List.map_nil]); first | done | rfl | (simp only [List.length_drop, List.length_take]; rfl)) ?_; (with_reducible refine (awardingbodymake_Tape_Loose.calls k g744 t742 t743 t745 t746 t747 w _ ?side1 ?side2 A3.out).mono ?_); (case side1 => repeat (first | (with_reducible first | exact HI744.out | apply IsS53.alloc | apply IsS53.drewN | apply IsS53.drew | apply IsS53.set_1) | exact HI744.out)); (case side2 => repeat (first | (with_reducible first | exact HB.out | apply below_alloc | apply pw_below_drewN | apply below_drew1 | refine below_set ?_ (IsS53.ge HI744.out)) | exact HB.out)); rintro e w11 ⟨rfl, hi, hb, hk⟩; refine ⟨_, rfl, ?_⟩; replace HB := Aside0.mk (hb); replace HI744 := Aside0.mk (hi); (try clear hb); (try clear hb2); (try clear hk); (try clear hi)) | ((with_reducible refine gate_callee (f := 26) rfl ?_); refine goesL_ (some 19) rfl rfl Try.func26 (by kernel_rfl) rfl #[.pointer (some ⟨g744, 0, none⟩)] rfl (by (try simp only [List.map_toArray, List.map_cons, List.map_nil]); first | done | rfl | (simp only [List.length_drop, List.length_take]; rfl)) ?_; (with_reducible refine (awardingbodymake_Tape_Loose.calls k g744 t742 t747 t748 t749 t750 w _ ?side1 ?side2 A4.out).mono ?_); (case side1 => repeat (first | (with_reducible first | exact HI744.out | apply IsS53.alloc | apply IsS53.drewN | apply IsS53.drew | apply IsS53.set_1) | exact HI744.out)); (case side2 => repeat (first | (with_reducible first | exact HB.out | apply below_alloc | apply pw_below_drewN | apply below_drew1 | refine below_set ?_ (IsS53.ge HI744.out)) | exact HB.out)); rintro e w12 ⟨rfl, hi, hb, hk⟩; refine ⟨_, rfl, ?_⟩; replace HB := Aside0.mk (hb); replace HI744 := Aside0.mk (hi); (try clear hb); (try clear hb2); (try clear hk); (try clear hi)) | ((with_reducible refine gate_dst (N := 4) rfl ?_); refine box_event ?hg (N := 4) ?hd (cs := #[.int .i64 0, .int .i64 0]) (t := 35) ?hr ?_; (case hd => rfl); (case hg => rfl); (case hr => first | (go_simp; done) | (go_simp; rfl)); intro gb751 hg w13 hbox hb; have BK751 := Aside0.mk (hbox); have GW751 := Aside0.mk ((by rw [hg]; exact (below_size (by repeat (first | (with_reducible first | exact HB.out | apply below_alloc | apply pw_below_drewN | apply below_drew1 | refine below_set ?_ (IsS53.ge HI744.out)) | exact HB.out))) : w.heap.size ≤ gb751)); have GE751 := Aside0.mk ((by rw [hg]; exact (below_size (by repeat (first | (with_reducible first | exact HB.out | apply below_alloc | apply pw_below_drewN | apply below_drew1 | refine below_set ?_ (IsS53.ge HI744.out)) | exact HB.out))) : w.heap.size ≤ gb751)); have NB744_751 := Aside0.mk ((by rw [hg]; exact Nat.ne_of_lt (IsS53.lt (show IsS53 w _ g744 t742 t750 from by repeat (first | (with_reducible first | exact HI744.out | apply IsS53.alloc | apply IsS53.drewN | apply IsS53.drew | apply IsS53.set_1) | exact HI744.out))) : g744 ≠ gb751)); have NB751_744 := Aside0.mk ((by rw [hg]; exact Nat.ne_of_gt (IsS53.lt (show IsS53 w _ g744 t742 t750 from by repeat (first | (with_reducible first | exact HI744.out | apply IsS53.alloc | apply IsS53.drewN | apply IsS53.drew | apply IsS53.set_1) | exact HI744.out))) : gb751 ≠ g744)); replace HI744 := Aside0.mk (IsS53.below (by repeat (first | (with_reducible first | exact HI744.out | apply IsS53.alloc | apply IsS53.drewN | apply IsS53.drew | apply IsS53.set_1) | exact HI744.out)) hb); replace HB := Aside0.mk (below_step (by repeat (first | (with_reducible first | exact HB.out | apply below_alloc | apply pw_below_drewN | apply below_drew1 | refine below_set ?_ (IsS53.ge HI744.out)) | exact HB.out)) hb); clear hb hbox hg) | ((with_reducible refine gate_dst (N := 5) rfl ?_); refine box_event ?hg (N := 5) ?hd (cs := #[.int .i64 0, .int .i64 0]) (t := 35) ?hr ?_; (case hd => rfl); (case hg => rfl); (case hr => first | (go_simp; done) | (go_simp; rfl)); intro gb752 hg w14 hbox hb; have BK752 := Aside0.mk (hbox); have GW752 := Aside0.mk ((by rw [hg]; exact (below_size (by repeat (first | (with_reducible first | exact HB.out | apply below_alloc | apply pw_below_drewN | apply below_drew1 | refine below_set ?_ (IsS53.ge HI744.out) | refine below_set ?_ GE751.out) | exact HB.out))) : w.heap.size ≤ gb752)); have GE752 := Aside0.mk ((by rw [hg]; exact (below_size (by repeat (first | (with_reducible first | exact HB.out | apply below_alloc | apply pw_below_drewN | apply below_drew1 | refine below_set ?_ (IsS53.ge HI744.out) | refine below_set ?_ GE751.out) | exact HB.out))) : w.heap.size ≤ gb752)); have NB751_752 := nl BK751 hg; have NB752_751 := nr BK751 hg; have NB744_752 := Aside0.mk ((by rw [hg]; exact Nat.ne_of_lt (IsS53.lt (show IsS53 w _ g744 t742 t750 from by repeat (first | (with_reducible first | exact HI744.out | apply IsS53.alloc | apply IsS53.drewN | apply IsS53.drew | apply IsS53.set_1 | refine IsS53.far ?_ NB744_751.out _) | exact HI744.out))) : g744 ≠ gb752)); have NB752_744 := Aside0.mk ((by rw [hg]; exact Nat.ne_of_gt (IsS53.lt (show IsS53 w _ g744 t742 t750 from by repeat (first | (with_reducible first | exact HI744.out | apply IsS53.alloc | apply IsS53.drewN | apply IsS53.drew | apply IsS53.set_1 | refine IsS53.far ?_ NB744_751.out _) | exact HI744.out))) : gb752 ≠ g744)); replace HI744 := Aside0.mk (IsS53.below (by repeat (first | (with_reducible first | exact HI744.out | apply IsS53.alloc | apply IsS53.drewN | apply IsS53.drew | apply IsS53.set_1 | refine IsS53.far ?_ NB744_751.out _) | exact HI744.out)) hb); replace BK751 := kb BK751 hb; replace HB := Aside0.mk (below_step (by repeat (first | (with_reducible first | exact HB.out | apply below_alloc | apply pw_below_drewN | apply below_drew1 | refine below_set ?_ (IsS53.ge HI744.out) | refine below_set ?_ GE751.out) | exact HB.out)) hb); clear hb hbox hg; obtain ⟨hnb15, hnc15⟩ := n2 NB751_752; obtain ⟨hnb16, hnc16⟩ := n2 NB751_744; have hcz17_0 : w14.cell? ⟨gb751, 0, none⟩ = some (.int .i64 0) := (blk_cell BK751.out 0).trans rfl; have hcz17_1 : w14.cell? ⟨gb751, 1, none⟩ = some (.int .i64 0) := (blk_cell BK751.out 1).trans rfl; have hfz17_0 := blk_frozen BK751.out 0; have hfz17_1 := blk_frozen BK751.out 1; obtain ⟨hnb18, hnc18⟩ := n2 NB752_744; have hcz19_0 : w14.cell? ⟨gb752, 0, none⟩ = some (.int .i64 0) := (blk_cell BK752.out 0).trans rfl; have hcz19_1 : w14.cell? ⟨gb752, 1, none⟩ = some (.int .i64 0) := (blk_cell BK752.out 1).trans rfl; have hfz19_0 := blk_frozen BK752.out 0; have hfz19_1 := blk_frozen BK752.out 1) | ((with_reducible refine gate_callee (f := 39) rfl ?_); refine goesL_ (some 23) rfl rfl Try.func39 (by kernel_rfl) rfl #[.agg #[.int .i64 t745, .int .i64 t746], .agg #[.int .i64 t748, .int .i64 t749]] rfl (by (try simp only [List.map_toArray, List.map_cons, List.map_nil]); first | done | rfl | (simp only [List.length_drop, List.length_take]; rfl)) ?_; (with_reducible refine (ratio_Add.calls k t745 t746 t748 t749 t753 t754 t755 _ A5.out).mono ?_); rintro e w20 ⟨rfl, hb⟩; refine ⟨_, rfl, ?_⟩; replace HI744 := Aside0.mk (IsS53.below (show IsS53 w ((((w14.setCell ⟨gb751, 0, none⟩ (.int .i64 t745)).setCell ⟨gb751, 1, none⟩ (.int .i64 t746)).setCell ⟨gb752, 0, none⟩ (.int .i64 t748)).setCell ⟨gb752, 1, none⟩ (.int .i64 t749)) g744 t742 t750 from by repeat (first | (with_reducible first | exact HI744.out | apply IsS53.alloc | apply IsS53.drewN | apply IsS53.drew | apply IsS53.set_1 | refine IsS53.far ?_ NB744_751.out _ | refine IsS53.far ?_ NB744_752.out _) | exact HI744.out)) hb); replace BK751 := Aside0.mk (blk_below (g := gb751) (o := .cells #[.int .i64 t745, .int .i64 t746] 35 (0, 0)) (by refine pe ?_; refine blk_far ?_ NB751_752.out _; refine pe ?_; refine blk_far ?_ NB751_752.out _; refine pe ?_; refine blk_put (cs := #[.int .i64 t745, .int .i64 0]) ?_ 1 _ rfl; refine pe ?_; refine blk_put (cs := #[.int .i64 0, .int .i64 0]) ?_ 0 _ rfl; refine pe ?_; exact BK751.out) hb); replace BK752 := Aside0.mk (blk_below (g := gb752) (o := .cells #[.int .i64 t748, .int .i64 t749] 35 (0, 0)) (by refine pe ?_; refine blk_put (cs := #[.int .i64 t748, .int .i64 0]) ?_ 1 _ rfl; refine pe ?_; refine blk_put (cs := #[.int .i64 0, .int .i64 0]) ?_ 0 _ rfl; refine pe ?_; refine blk_far ?_ NB752_751.out _; refine pe ?_; refine blk_far ?_ NB752_751.out _; refine pe ?_; exact BK752.out) hb); replace HB := Aside0.mk (below_step (by repeat (first | (with_reducible first | exact HB.out | apply below_alloc | apply pw_below_drewN | apply below_drew1 | refine below_set ?_ (IsS53.ge HI744.out) | refine below_set ?_ GE751.out | refine below_set ?_ GE752.out) | exact HB.out)) hb); (try clear hb); (try clear hb2); (try clear hk); (try clear hi)) | ((with_reducible refine gate_dst (N := 6) rfl ?_); refine box_event ?hg (N := 6) ?hd (cs := #[.int .i64 0, .int .i64 0]) (t := 35) ?hr ?_; (case hd => rfl); (case hg => rfl); (case hr => first | (go_simp; done) | (go_simp; rfl)); intro gb756 hg w21 hbox hb; have BK756 := Aside0.mk (hbox); have GW756 := Aside0.mk ((by rw [hg]; exact (below_size (by repeat (first | (with_reducible first | exact HB.out | apply below_alloc | apply pw_below_drewN | apply below_drew1 | refine below_set ?_ (IsS53.ge HI744.out) | refine below_set ?_ GE751.out | refine below_set ?_ GE752.out) | exact HB.out))) : w.heap.size ≤ gb756)); have GE756 := Aside0.mk ((by rw [hg]; exact (below_size (by repeat (first | (with_reducible first | exact HB.out | apply below_alloc | apply pw_below_drewN | apply below_drew1 | refine below_set ?_ (IsS53.ge HI744.out) | refine below_set ?_ GE751.out | refine below_set ?_ GE752.out) | exact HB.out))) : w.heap.size ≤ gb756)); have NB751_756 := nl BK751 hg; have NB756_751 := nr BK751 hg; have NB752_756 := nl BK752 hg; have NB756_752 := nr BK752 hg; have NB744_756 := Aside0.mk ((by rw [hg]; exact Nat.ne_of_lt (IsS53.lt (show IsS53 w _ g744 t742 t750 from by repeat (first | (with_reducible first | exact HI744.out | apply IsS53.alloc | apply IsS53.drewN | apply IsS53.drew | apply IsS53.set_1 | refine IsS53.far ?_ NB744_751.out _ | refine IsS53.far ?_ NB744_752.out _) | exact HI744.out))) : g744 ≠ gb756)); have NB756_744 := Aside0.mk ((by rw [hg]; exact Nat.ne_of_gt (IsS53.lt (show IsS53 w _ g744 t742 t750 from by repeat (first | (with_reducible first | exact HI744.out | apply IsS53.alloc | apply IsS53.drewN | apply IsS53.drew | apply IsS53.set_1 | refine IsS53.far ?_ NB744_751.out _ | refine IsS53.far ?_ NB744_752.out _) | exact HI744.out))) : gb756 ≠ g744)); replace HI744 := Aside0.mk (IsS53.below (by repeat (first | (with_reducible first | exact HI744.out | apply IsS53.alloc | apply IsS53.drewN | apply IsS53.drew | apply IsS53.set_1 | refine IsS53.far ?_ NB744_751.out _ | refine IsS53.far ?_ NB744_752.out _) | exact HI744.out)) hb); replace BK751 := kb BK751 hb; replace BK752 := kb BK752 hb; replace HB := Aside0.mk (below_step (by repeat (first | (with_reducible first | exact HB.out | apply below_alloc | apply pw_below_drewN | apply below_drew1 | refine below_set ?_ (IsS53.ge HI744.out) | refine below_set ?_ GE751.out | refine below_set ?_ GE752.out) | exact HB.out)) hb); clear hb hbox hg; obtain ⟨hnb22, hnc22⟩ := n2 NB756_751; obtain ⟨hnb23, hnc23⟩ := n2 NB756_752; obtain ⟨hnb24, hnc24⟩ := n2 NB756_744; have hcz25_0 : w21.cell? ⟨gb756, 0, none⟩ = some (.int .i64 0) := (blk_cell BK756.out 0).trans rfl; have hcz25_1 : w21.cell? ⟨gb756, 1, none⟩ = some (.int .i64 0) := (blk_cell BK756.out 1).trans rfl; have hfz25_0 := blk_frozen BK756.out 0; have hfz25_1 := blk_frozen BK756.out 1; have hcz26_0 : w21.cell? ⟨gb751, 0, none⟩ = some (.int .i64 t745) := (blk_cell BK751.out 0).trans rfl; have hcz26_1 : w21.cell? ⟨gb751, 1, none⟩ = some (.int .i64 t746) := (blk_cell BK751.out 1).trans rfl; have hfz26_0 := blk_frozen BK751.out 0; have hfz26_1 := blk_frozen BK751.out 1; have hcz27_0 : w21.cell? ⟨gb752, 0, none⟩ = some (.int .i64 t748) := (blk_cell BK752.out 0).trans rfl; have hcz27_1 : w21.cell? ⟨gb752, 1, none⟩ = some (.int .i64 t749) := (blk_cell BK752.out 1).trans rfl; have hfz27_0 := blk_frozen BK752.out 0; have hfz27_1 := blk_frozen BK752.out 1) | ((with_reducible refine gate_callee (f := 40) rfl ?_); refine goesL_ (some 29) rfl rfl Try.func40 (by kernel_rfl) rfl #[.agg #[.int .i64 t745, .int .i64 t746], .agg #[.int .i64 t748, .int .i64 t749]] rfl (by (try simp only [List.map_toArray, List.map_cons, List.map_nil]); first | done | rfl | (simp only [List.length_drop, List.length_take]; rfl)) ?_; (with_reducible refine (awardingbodyref01_Add.calls k t745 t746 t748 t749 t757 t758 t759 _ A6.out).mono ?_); rintro e w28 ⟨rfl, hb⟩; refine ⟨_, rfl, ?_⟩; replace HI744 := Aside0.mk (IsS53.below (show IsS53 w ((w21.setCell ⟨gb756, 0, none⟩ (.int .i64 t753)).setCell ⟨gb756, 1, none⟩ (.int .i64 t754)) g744 t742 t750 from by repeat (first | (with_reducible first | exact HI744.out | apply IsS53.alloc | apply IsS53.drewN | apply IsS53.drew | apply IsS53.set_1 | refine IsS53.far ?_ NB744_751.out _ | refine IsS53.far ?_ NB744_752.out _ | refine IsS53.far ?_ NB744_756.out _) | exact HI744.out)) hb); replace BK751 := kb BK751 hb; replace BK752 := kb BK752 hb; replace BK756 := Aside0.mk (blk_below (g := gb756) (o := .cells #[.int .i64 t753, .int .i64 t754] 35 (0, 0)) (by refine pe ?_; refine blk_put (cs := #[.int .i64 t753, .int .i64 0]) ?_ 1 _ rfl; refine pe ?_; refine blk_put (cs := #[.int .i64 0, .int .i64 0]) ?_ 0 _ rfl; refine pe ?_; exact BK756.out) hb); replace HB := Aside0.mk (below_step (by repeat (first | (with_reducible first | exact HB.out | apply below_alloc | apply pw_below_drewN | apply below_drew1 | refine below_set ?_ (IsS53.ge HI744.out) | refine below_set ?_ GE751.out | refine below_set ?_ GE752.out | refine below_set ?_ GE756.out) | exact HB.out)) hb); (try clear hb); (try clear hb2); (try clear hk); (try clear hi)) | ((with_reducible refine gate_dst (N := 8) rfl ?_); refine box_event ?hg (N := 8) ?hd (cs := #[.int .i64 0, .int .i64 0]) (t := 35) ?hr ?_; (case hd => rfl); (case hg => rfl); (case hr => first | (go_simp; done) | (go_simp; rfl)); intro gb760 hg w29 hbox hb; have BK760 := Aside0.mk (hbox); have GW760 := Aside0.mk ((by rw [hg]; exact (below_size (by repeat (first | (with_reducible first | exact HB.out | apply below_alloc | apply pw_below_drewN | apply below_drew1 | refine below_set ?_ (IsS53.ge HI744.out) | refine below_set ?_ GE751.out | refine below_set ?_ GE752.out | refine below_set ?_ GE756.out) | exact HB.out))) : w.heap.size ≤ gb760)); have GE760 := Aside0.mk ((by rw [hg]; exact (below_size (by repeat (first | (with_reducible first | exact HB.out | apply below_alloc | apply pw_below_drewN | apply below_drew1 | refine below_set ?_ (IsS53.ge HI744.out) | refine below_set ?_ GE751.out | refine below_set ?_ GE752.out | refine below_set ?_ GE756.out) | exact HB.out))) : w.heap.size ≤ gb760)); have NB751_760 := nl BK751 hg; have NB760_751 := nr BK751 hg; have NB752_760 := nl BK752 hg; have NB760_752 := nr BK752 hg; have NB756_760 := nl BK756 hg; have NB760_756 := nr BK756 hg; have NB744_760 := Aside0.mk ((by rw [hg]; exact Nat.ne_of_lt (IsS53.lt (show IsS53 w _ g744 t742 t750 from by repeat (first | (with_reducible first | exact HI744.out | apply IsS53.alloc | apply IsS53.drewN | apply IsS53.drew | apply IsS53.set_1 | refine IsS53.far ?_ NB744_751.out _ | refine IsS53.far ?_ NB744_752.out _ | refine IsS53.far ?_ NB744_756.out _) | exact HI744.out))) : g744 ≠ gb760)); have NB760_744 := Aside0.mk ((by rw [hg]; exact Nat.ne_of_gt (IsS53.lt (show IsS53 w _ g744 t742 t750 from by repeat (first | (with_reducible first | exact HI744.out | apply IsS53.alloc | apply IsS53.drewN | apply IsS53.drew | apply IsS53.set_1 | refine IsS53.far ?_ NB744_751.out _ | refine IsS53.far ?_ NB744_752.out _ | refine IsS53.far ?_ NB744_756.out _) | exact HI744.out))) : gb760 ≠ g744)); replace HI744 := Aside0.mk (IsS53.below (by repeat (first | (with_reducible first | exact HI744.out | apply IsS53.alloc | apply IsS53.drewN | apply IsS53.drew | apply IsS53.set_1 | refine IsS53.far ?_ NB744_751.out _ | refine IsS53.far ?_ NB744_752.out _ | refine IsS53.far ?_ NB744_756.out _) | exact HI744.out)) hb); replace BK751 := kb BK751 hb; replace BK752 := kb BK752 hb; replace BK756 := kb BK756 hb; replace HB := Aside0.mk (below_step (by repeat (first | (with_reducible first | exact HB.out | apply below_alloc | apply pw_below_drewN | apply below_drew1 | refine below_set ?_ (IsS53.ge HI744.out) | refine below_set ?_ GE751.out | refine below_set ?_ GE752.out | refine below_set ?_ GE756.out) | exact HB.out)) hb); clear hb hbox hg; obtain ⟨hnb30, hnc30⟩ := n2 NB760_751; obtain ⟨hnb31, hnc31⟩ := n2 NB760_752; obtain ⟨hnb32, hnc32⟩ := n2 NB760_756; obtain ⟨hnb33, hnc33⟩ := n2 NB760_744; have hcz34_0 : w29.cell? ⟨gb760, 0, none⟩ = some (.int .i64 0) := (blk_cell BK760.out 0).trans rfl; have hcz34_1 : w29.cell? ⟨gb760, 1, none⟩ = some (.int .i64 0) := (blk_cell BK760.out 1).trans rfl; have hfz34_0 := blk_frozen BK760.out 0; have hfz34_1 := blk_frozen BK760.out 1; have hcz35_0 : w29.cell? ⟨gb751, 0, none⟩ = some (.int .i64 t745) := (blk_cell BK751.out 0).trans rfl; have hcz35_1 : w29.cell? ⟨gb751, 1, none⟩ = some (.int .i64 t746) := (blk_cell BK751.out 1).trans rfl; have hfz35_0 := blk_frozen BK751.out 0; have hfz35_1 := blk_frozen BK751.out 1; have hcz36_0 : w29.cell? ⟨gb752, 0, none⟩ = some (.int .i64 t748) := (blk_cell BK752.out 0).trans rfl; have hcz36_1 : w29.cell? ⟨gb752, 1, none⟩ = some (.int .i64 t749) := (blk_cell BK752.out 1).trans rfl; have hfz36_0 := blk_frozen BK752.out 0; have hfz36_1 := blk_frozen BK752.out 1) | ((with_reducible refine gate_callee (f := 41) rfl ?_); refine goesL_ (some 35) rfl rfl Try.func41 (by kernel_rfl) rfl #[.agg #[.int .i64 t745, .int .i64 t746], .agg #[.int .i64 t748, .int .i64 t749]] rfl (by (try simp only [List.map_toArray, List.map_cons, List.map_nil]); first | done | rfl | (simp only [List.length_drop, List.length_take]; rfl)) ?_; (with_reducible refine (ratio_Sub.calls k t745 t746 t748 t749 t761 t762 t763 _ A7.out).mono ?_); rintro e w37 ⟨rfl, hb⟩; refine ⟨_, rfl, ?_⟩; replace HI744 := Aside0.mk (IsS53.below (show IsS53 w ((w29.setCell ⟨gb760, 0, none⟩ (.int .i64 t757)).setCell ⟨gb760, 1, none⟩ (.int .i64 t758)) g744 t742 t750 from by repeat (first | (with_reducible first | exact HI744.out | apply IsS53.alloc | apply IsS53.drewN | apply IsS53.drew | apply IsS53.set_1 | refine IsS53.far ?_ NB744_751.out _ | refine IsS53.far ?_ NB744_752.out _ | refine IsS53.far ?_ NB744_756.out _ | refine IsS53.far ?_ NB744_760.out _) | exact HI744.out)) hb); replace BK751 := kb BK751 hb; replace BK752 := kb BK752 hb; replace BK756 := kb BK756 hb; replace BK760 := Aside0.mk (blk_below (g := gb760) (o := .cells #[.int .i64 t757, .int .i64 t758] 35 (0, 0)) (by refine pe ?_; refine blk_put (cs := #[.int .i64 t757, .int .i64 0]) ?_ 1 _ rfl; refine pe ?_; refine blk_put (cs := #[.int .i64 0, .int .i64 0]) ?_ 0 _ rfl; refine pe ?_; exact BK760.out) hb); replace HB := Aside0.mk (below_step (by repeat (first | (with_reducible first | exact HB.out | apply below_alloc | apply pw_below_drewN | apply below_drew1 | refine below_set ?_ (IsS53.ge HI744.out) | refine below_set ?_ GE751.out | refine below_set ?_ GE752.out | refine below_set ?_ GE756.out | refine below_set ?_ GE760.out) | exact HB.out)) hb); (try clear hb); (try clear hb2); (try clear hk); (try clear hi)) | ((with_reducible refine gate_dst (N := 10) rfl ?_); refine box_event ?hg (N := 10) ?hd (cs := #[.int .i64 0, .int .i64 0]) (t := 35) ?hr ?_; (case hd => rfl); (case hg => rfl); (case hr => first | (go_simp; done) | (go_simp; rfl)); intro gb764 hg w38 hbox hb; have BK764 := Aside0.mk (hbox); have GW764 := Aside0.mk ((by rw [hg]; exact (below_size (by repeat (first | (with_reducible first | exact HB.out | apply below_alloc | apply pw_below_drewN | apply below_drew1 | refine below_set ?_ (IsS53.ge HI744.out) | refine below_set ?_ GE751.out | refine below_set ?_ GE752.out | refine below_set ?_ GE756.out | refine below_set ?_ GE760.out) | exact HB.out))) : w.heap.size ≤ gb764)); have GE764 := Aside0.mk ((by rw [hg]; exact (below_size (by repeat (first | (with_reducible first | exact HB.out | apply below_alloc | apply pw_below_drewN | apply below_drew1 | refine below_set ?_ (IsS53.ge HI744.out) | refine below_set ?_ GE751.out | refine below_set ?_ GE752.out | refine below_set ?_ GE756.out | refine below_set ?_ GE760.out) | exact HB.out))) : w.heap.size ≤ gb764)); have NB751_764 := nl BK751 hg; have NB764_751 := nr BK751 hg; have NB752_764 := nl BK752 hg; have NB764_752 := nr BK752 hg; have NB756_764 := nl BK756 hg; have NB764_756 := nr BK756 hg; have NB760_764 := nl BK760 hg; have NB764_760 := nr BK760 hg; have NB744_764 := Aside0.mk ((by rw [hg]; exact Nat.ne_of_lt (IsS53.lt (show IsS53 w _ g744 t742 t750 from by repeat (first | (with_reducible first | exact HI744.out | apply IsS53.alloc | apply IsS53.drewN | apply IsS53.drew | apply IsS53.set_1 | refine IsS53.far ?_ NB744_751.out _ | refine IsS53.far ?_ NB744_752.out _ | refine IsS53.far ?_ NB744_756.out _ | refine IsS53.far ?_ NB744_760.out _) | exact HI744.out))) : g744 ≠ gb764)); have NB764_744 := Aside0.mk ((by rw [hg]; exact Nat.ne_of_gt (IsS53.lt (show IsS53 w _ g744 t742 t750 from by repeat (first | (with_reducible first | exact HI744.out | apply IsS53.alloc | apply IsS53.drewN | apply IsS53.drew | apply IsS53.set_1 | refine IsS53.far ?_ NB744_751.out _ | refine IsS53.far ?_ NB744_752.out _ | refine IsS53.far ?_ NB744_756.out _ | refine IsS53.far ?_ NB744_760.out _) | exact HI744.out))) : gb764 ≠ g744)); replace HI744 := Aside0.mk (IsS53.below (by repeat (first | (with_reducible first | exact HI744.out | apply IsS53.alloc | apply IsS53.drewN | apply IsS53.drew | apply IsS53.set_1 | refine IsS53.far ?_ NB744_751.out _ | refine IsS53.far ?_ NB744_752.out _ | refine IsS53.far ?_ NB744_756.out _ | refine IsS53.far ?_ NB744_760.out _) | exact HI744.out)) hb); replace BK751 := kb BK751 hb; replace BK752 := kb BK752 hb; replace BK756 := kb BK756 hb; replace BK760 := kb BK760 hb; replace HB := Aside0.mk (below_step (by repeat (first | (with_reducible first | exact HB.out | apply below_alloc | apply pw_below_drewN | apply below_drew1 | refine below_set ?_ (IsS53.ge HI744.out) | refine below_set ?_ GE751.out | refine below_set ?_ GE752.out | refine below_set ?_ GE756.out | refine below_set ?_ GE760.out) | exact HB.out)) hb); clear hb hbox hg; obtain ⟨hnb39, hnc39⟩ := n2 NB764_751; obtain ⟨hnb40, hnc40⟩ := n2 NB764_752; obtain ⟨hnb41, hnc41⟩ := n2 NB764_756; obtain ⟨hnb42, hnc42⟩ := n2 NB764_760; obtain ⟨hnb43, hnc43⟩ := n2 NB764_744; have hcz44_0 : w38.cell? ⟨gb764, 0, none⟩ = some (.int .i64 0) := (blk_cell BK764.out 0).trans rfl; have hcz44_1 : w38.cell? ⟨gb764, 1, none⟩ = some (.int .i64 0) := (blk_cell BK764.out 1).trans rfl; have hfz44_0 := blk_frozen BK764.out 0; have hfz44_1 := blk_frozen BK764.out 1; have hcz45_0 : w38.cell? ⟨gb751, 0, none⟩ = some (.int .i64 t745) := (blk_cell BK751.out 0).trans rfl; have hcz45_1 : w38.cell? ⟨gb751, 1, none⟩ = some (.int .i64 t746) := (blk_cell BK751.out 1).trans rfl; have hfz45_0 := blk_frozen BK751.out 0; have hfz45_1 := blk_frozen BK751.out 1; have hcz46_0 : w38.cell? ⟨gb752, 0, none⟩ = some (.int .i64 t748) := (blk_cell BK752.out 0).trans rfl; have hcz46_1 : w38.cell? ⟨gb752, 1, none⟩ = some (.int .i64 t749) := (blk_cell BK752.out 1).trans rfl; have hfz46_0 := blk_frozen BK752.out 0; have hfz46_1 := blk_frozen BK752.out 1) | ((with_reducible refine gate_callee (f := 42) rfl ?_); refine goesL_ (some 41) rfl rfl Try.func42 (by kernel_rfl) rfl #[.agg #[.int .i64 t745, .int .i64 t746], .agg #[.int .i64 t748, .int .i64 t749]] rfl (by (try simp only [List.map_toArray, List.map_cons, List.map_nil]); first | done | rfl | (simp only [List.length_drop, List.length_take]; rfl)) ?_; (with_reducible refine (awardingbodyref01_Sub.calls k t745 t746 t748 t749 t765 t766 t767 _ A8.out).mono ?_); rintro e w47 ⟨rfl, hb⟩; refine ⟨_, rfl, ?_⟩; replace HI744 := Aside0.mk (IsS53.below (show IsS53 w ((w38.setCell ⟨gb764, 0, none⟩ (.int .i64 t761)).setCell ⟨gb764, 1, none⟩ (.int .i64 t762)) g744 t742 t750 from by repeat (first | (with_reducible first | exact HI744.out | apply IsS53.alloc | apply IsS53.drewN | apply IsS53.drew | apply IsS53.set_1 | refine IsS53.far ?_ NB744_751.out _ | refine IsS53.far ?_ NB744_752.out _ | refine IsS53.far ?_ NB744_756.out _ | refine IsS53.far ?_ NB744_760.out _ | refine IsS53.far ?_ NB744_764.out _) | exact HI744.out)) hb); replace BK751 := kb BK751 hb; replace BK752 := kb BK752 hb; replace BK756 := kb BK756 hb; replace BK760 := kb BK760 hb; replace BK764 := Aside0.mk (blk_below (g := gb764) (o := .cells #[.int .i64 t761, .int .i64 t762] 35 (0, 0)) (by refine pe ?_; refine blk_put (cs := #[.int .i64 t761, .int .i64 0]) ?_ 1 _ rfl; refine pe ?_; refine blk_put (cs := #[.int .i64 0, .int .i64 0]) ?_ 0 _ rfl; refine pe ?_; exact BK764.out) hb); replace HB := Aside0.mk (below_step (by repeat (first | (with_reducible first | exact HB.out | apply below_alloc | apply pw_below_drewN | apply below_drew1 | refine below_set ?_ (IsS53.ge HI744.out) | refine below_set ?_ GE751.out | refine below_set ?_ GE752.out | refine below_set ?_ GE756.out | refine below_set ?_ GE760.out | refine below_set ?_ GE764.out) | exact HB.out)) hb); (try clear hb); (try clear hb2); (try clear hk); (try clear hi)) | ((with_reducible refine gate_dst (N := 12) rfl ?_); refine box_event ?hg (N := 12) ?hd (cs := #[.int .i64 0, .int .i64 0]) (t := 35) ?hr ?_; (case hd => rfl); (case hg => rfl); (case hr => first | (go_simp; done) | (go_simp; rfl)); intro gb768 hg w48 hbox hb; have BK768 := Aside0.mk (hbox); have GW768 := Aside0.mk ((by rw [hg]; exact (below_size (by repeat (first | (with_reducible first | exact HB.out | apply below_alloc | apply pw_below_drewN | apply below_drew1 | refine below_set ?_ (IsS53.ge HI744.out) | refine below_set ?_ GE751.out | refine below_set ?_ GE752.out | refine below_set ?_ GE756.out | refine below_set ?_ GE760.out | refine below_set ?_ GE764.out) | exact HB.out))) : w.heap.size ≤ gb768)); have GE768 := Aside0.mk ((by rw [hg]; exact (below_size (by repeat (first | (with_reducible first | exact HB.out | apply below_alloc | apply pw_below_drewN | apply below_drew1 | refine below_set ?_ (IsS53.ge HI744.out) | refine below_set ?_ GE751.out | refine below_set ?_ GE752.out | refine below_set ?_ GE756.out | refine below_set ?_ GE760.out | refine below_set ?_ GE764.out) | exact HB.out))) : w.heap.size ≤ gb768)); have NB751_768 := nl BK751 hg; have NB768_751 := nr BK751 hg; have NB752_768 := nl BK752 hg; have NB768_752 := nr BK752 hg; have NB756_768 := nl BK756 hg; have NB768_756 := nr BK756 hg; have NB760_768 := nl BK760 hg; have NB768_760 := nr BK760 hg; have NB764_768 := nl BK764 hg; have NB768_764 := nr BK764 hg; have NB744_768 := Aside0.mk ((by rw [hg]; exact Nat.ne_of_lt (IsS53.lt (show IsS53 w _ g744 t742 t750 from by repeat (first | (with_reducible first | exact HI744.out | apply IsS53.alloc | apply IsS53.drewN | apply IsS53.drew | apply IsS53.set_1 | refine IsS53.far ?_ NB744_751.out _ | refine IsS53.far ?_ NB744_752.out _ | refine IsS53.far ?_ NB744_756.out _ | refine IsS53.far ?_ NB744_760.out _ | refine IsS53.far ?_ NB744_764.out _) | exact HI744.out))) : g744 ≠ gb768)); have NB768_744 := Aside0.mk ((by rw [hg]; exact Nat.ne_of_gt (IsS53.lt (show IsS53 w _ g744 t742 t750 from by repeat (first | (with_reducible first | exact HI744.out | apply IsS53.alloc | apply IsS53.drewN | apply IsS53.drew | apply IsS53.set_1 | refine IsS53.far ?_ NB744_751.out _ | refine IsS53.far ?_ NB744_752.out _ | refine IsS53.far ?_ NB744_756.out _ | refine IsS53.far ?_ NB744_760.out _ | refine IsS53.far ?_ NB744_764.out _) | exact HI744.out))) : gb768 ≠ g744)); replace HI744 := Aside0.mk (IsS53.below (by repeat (first | (with_reducible first | exact HI744.out | apply IsS53.alloc | apply IsS53.drewN | apply IsS53.drew | apply IsS53.set_1 | refine IsS53.far ?_ NB744_751.out _ | refine IsS53.far ?_ NB744_752.out _ | refine IsS53.far ?_ NB744_756.out _ | refine IsS53.far ?_ NB744_760.out _ | refine IsS53.far ?_ NB744_764.out _) | exact HI744.out)) hb); replace BK751 := kb BK751 hb; replace BK752 := kb BK752 hb; replace BK756 := kb BK756 hb; replace BK760 := kb BK760 hb; replace BK764 := kb BK764 hb; replace HB := Aside0.mk (below_step (by repeat (first | (with_reducible first | exact HB.out | apply below_alloc | apply pw_below_drewN | apply below_drew1 | refine below_set ?_ (IsS53.ge HI744.out) | refine below_set ?_ GE751.out | refine below_set ?_ GE752.out | refine below_set ?_ GE756.out | refine below_set ?_ GE760.out | refine below_set ?_ GE764.out) | exact HB.out)) hb); clear hb hbox hg; obtain ⟨hnb49, hnc49⟩ := n2 NB768_751; obtain ⟨hnb50, hnc50⟩ := n2 NB768_752; obtain ⟨hnb51, hnc51⟩ := n2 NB768_756; obtain ⟨hnb52, hnc52⟩ := n2 NB768_760; obtain ⟨hnb53, hnc53⟩ := n2 NB768_764; obtain ⟨hnb54, hnc54⟩ := n2 NB768_744; have hcz55_0 : w48.cell? ⟨gb768, 0, none⟩ = some (.int .i64 0) := (blk_cell BK768.out 0).trans rfl; have hcz55_1 : w48.cell? ⟨gb768, 1, none⟩ = some (.int .i64 0) := (blk_cell BK768.out 1).trans rfl; have hfz55_0 := blk_frozen BK768.out 0; have hfz55_1 := blk_frozen BK768.out 1))
 (try simp only [Act.put, List.setIfInBounds_toArray, List.set_cons_zero, List.set_cons_succ])
 have H := HC9.out
 clear HC9
 by_cases c56 : (t753 == t757 && (t754 == t758)) = true
 ·rw [if_pos c56] at H
  have c56b0 : (t753 == t757 && (t754 == t758)) = true := c56
  (try (have c56b1 : decide (t753 = t757 && (t754 == t758)) = true := by simpa using c56))
  (try (have c56b2 : (t753 == t757 && (t754 == t758)) = true := by simpa using c56))
  clear c56
  (first | rw [c56b0] | (simp only [i64_w, i32_w]; rw [c56b0]) | skip)
  by_cases c57 : t755 = t759
  ·rw [if_pos c57] at H
   have c57b0 : (t755 == t759) = true := beq_iff_eq.mpr c57
   have c57b1 : (t755 != t759) = false := bne_eq_false_iff_eq.mpr c57
   clear c57
   by_cases c58 : (t761 == t765 && (t762 == t766)) = true
   ·rw [if_pos c58] at H
    have c58b0 : (t761 == t765 && (t762 == t766)) = true := c58
    (try (have c58b1 : decide (t761 = t765 && (t762 == t766)) = true := by simpa using c58))
    (try (have c58b2 : (t761 == t765 && (t762 == t766)) = true := by simpa using c58))
    clear c58
    by_cases c59 : t763 = t767
    ·rw [if_pos c59] at H
     have c59b0 : (t763 == t767) = true := beq_iff_eq.mpr c59
     have c59b1 : (t763 != t767) = false := bne_eq_false_iff_eq.mpr c59
     clear c59
     replace H := Option.bind_eq_some_iff.mp H
     obtain ⟨t769, A600, H⟩ := H
     replace H : (some t769) = some r := H
     have A60 := Aside0.mk A600
     clear A600
     obtain rfl := Option.some.inj H
     obtain ⟨hnb61, hnc61⟩ := n2 NB756_751
     obtain ⟨hnb62, hnc62⟩ := n2 NB756_752
     obtain ⟨hnb63, hnc63⟩ := n2 NB756_760
     obtain ⟨hnb64, hnc64⟩ := n2 NB756_764
     obtain ⟨hnb65, hnc65⟩ := n2 NB756_768
     obtain ⟨hnb66, hnc66⟩ := n2 NB756_744
     have hcz67_0 : w48.cell? ⟨gb756, 0, none⟩ = some (.int .i64 t753) := (blk_cell BK756.out 0).trans rfl
     have hcz67_1 : w48.cell? ⟨gb756, 1, none⟩ = some (.int .i64 t754) := (blk_cell BK756.out 1).trans rfl
     have hfz67_0 := blk_frozen BK756.out 0
     have hfz67_1 := blk_frozen BK756.out 1
     obtain ⟨hnb68, hnc68⟩ := n2 NB760_751
     obtain ⟨hnb69, hnc69⟩ := n2 NB760_752
     obtain ⟨hnb70, hnc70⟩ := n2 NB760_764
     obtain ⟨hnb71, hnc71⟩ := n2 NB760_768
     obtain ⟨hnb72, hnc72⟩ := n2 NB760_744
     have hcz73_0 : w48.cell? ⟨gb760, 0, none⟩ = some (.int .i64 t757) := (blk_cell BK760.out 0).trans rfl
     have hcz73_1 : w48.cell? ⟨gb760, 1, none⟩ = some (.int .i64 t758) := (blk_cell BK760.out 1).trans rfl
     have hfz73_0 := blk_frozen BK760.out 0
     have hfz73_1 := blk_frozen BK760.out 1
     obtain ⟨hnb74, hnc74⟩ := n2 NB764_751
     obtain ⟨hnb75, hnc75⟩ := n2 NB764_752
     obtain ⟨hnb76, hnc76⟩ := n2 NB764_768
     obtain ⟨hnb77, hnc77⟩ := n2 NB764_744
     have hcz78_0 : w48.cell? ⟨gb764, 0, none⟩ = some (.int .i64 t761) := (blk_cell BK764.out 0).trans rfl
     have hcz78_1 : w48.cell? ⟨gb764, 1, none⟩ = some (.int .i64 t762) := (blk_cell BK764.out 1).trans rfl
     have hfz78_0 := blk_frozen BK764.out 0
     have hfz78_1 := blk_frozen BK764.out 1
     obtain ⟨hnb79, hnc79⟩ := n2 NB768_751
     obtain ⟨hnb80, hnc80⟩ := n2 NB768_752
     obtain ⟨hnb81, hnc81⟩ := n2 NB768_744
     have hcz82_0 : w48.cell? ⟨gb768, 0, none⟩ = some (.int .i64 0) := (blk_cell BK768.out 0).trans rfl
     have hcz82_1 : w48.cell? ⟨gb768, 1, none⟩ = some (.int .i64 0) := (blk_cell BK768.out 1).trans rfl
     have hfz82_0 := blk_frozen BK768.out 0
     have hfz82_1 := blk_frozen BK768.out 1
     go_wp2_with (first | (go_at_call 18; (with_reducible refine (awardingbodylaw01_awake.calls k  t769 _ A60.out).mono ?_); rintro e w83 ⟨rfl, hb⟩; replace HI744 := Aside0.mk (IsS53.below (show IsS53 w ((w48.setCell ⟨gb768, 0, none⟩ (.int .i64 t765)).setCell ⟨gb768, 1, none⟩ (.int .i64 t766)) g744 t742 t750 from by repeat (first | (with_reducible first | exact HI744.out | apply IsS53.alloc | apply IsS53.drewN | apply IsS53.drew | apply IsS53.set_1 | refine IsS53.far ?_ NB744_751.out _ | refine IsS53.far ?_ NB744_752.out _ | refine IsS53.far ?_ NB744_756.out _ | refine IsS53.far ?_ NB744_760.out _ | refine IsS53.far ?_ NB744_764.out _ | refine IsS53.far ?_ NB744_768.out _) | exact HI744.out)) hb); replace BK751 := kb BK751 hb; replace BK752 := kb BK752 hb; replace BK756 := kb BK756 hb; replace BK760 := kb BK760 hb; replace BK764 := kb BK764 hb; replace BK768 := Aside0.mk (blk_below (g := gb768) (o := .cells #[.int .i64 t765, .int .i64 t766] 35 (0, 0)) (by refine pe ?_; refine blk_put (cs := #[.int .i64 t765, .int .i64 0]) ?_ 1 _ rfl; refine pe ?_; refine blk_put (cs := #[.int .i64 0, .int .i64 0]) ?_ 0 _ rfl; refine pe ?_; exact BK768.out) hb); replace HB := Aside0.mk (below_step (by repeat (first | (with_reducible first | exact HB.out | apply below_alloc | apply pw_below_drewN | apply below_drew1 | refine below_set ?_ (IsS53.ge HI744.out) | refine below_set ?_ GE751.out | refine below_set ?_ GE752.out | refine below_set ?_ GE756.out | refine below_set ?_ GE760.out | refine below_set ?_ GE764.out | refine below_set ?_ GE768.out) | exact HB.out)) hb); (try clear hb); (try clear hb2); (try clear hk); (try clear hi)))
     go_ret
     exact ⟨by first | rfl | (simp [errW_none, errW_some] <;> rfl) | (simp [*, errW_none, errW_some] <;> rfl), by repeat (first | (with_reducible first | exact HB.out | apply below_alloc | apply pw_below_drewN | apply below_drew1 | refine below_set ?_ (IsS53.ge HI744.out) | refine below_set ?_ GE751.out | refine below_set ?_ GE752.out | refine below_set ?_ GE756.out | refine below_set ?_ GE760.out | refine below_set ?_ GE764.out | refine below_set ?_ GE768.out) | exact HB.out)⟩
    ·rw [if_neg c59] at H
     have c59b0 : (t763 == t767) = false := beq_eq_false_iff_ne.mpr c59
     have c59b1 : (t763 != t767) = true := bne_iff_ne.mpr c59
     obtain rfl := Option.some.inj H
     obtain ⟨hnb84, hnc84⟩ := n2 NB756_751
     obtain ⟨hnb85, hnc85⟩ := n2 NB756_752
     obtain ⟨hnb86, hnc86⟩ := n2 NB756_760
     obtain ⟨hnb87, hnc87⟩ := n2 NB756_764
     obtain ⟨hnb88, hnc88⟩ := n2 NB756_768
     obtain ⟨hnb89, hnc89⟩ := n2 NB756_744
     have hcz90_0 : w48.cell? ⟨gb756, 0, none⟩ = some (.int .i64 t753) := (blk_cell BK756.out 0).trans rfl
     have hcz90_1 : w48.cell? ⟨gb756, 1, none⟩ = some (.int .i64 t754) := (blk_cell BK756.out 1).trans rfl
     have hfz90_0 := blk_frozen BK756.out 0
     have hfz90_1 := blk_frozen BK756.out 1
     obtain ⟨hnb91, hnc91⟩ := n2 NB760_751
     obtain ⟨hnb92, hnc92⟩ := n2 NB760_752
     obtain ⟨hnb93, hnc93⟩ := n2 NB760_764
     obtain ⟨hnb94, hnc94⟩ := n2 NB760_768
     obtain ⟨hnb95, hnc95⟩ := n2 NB760_744
     have hcz96_0 : w48.cell? ⟨gb760, 0, none⟩ = some (.int .i64 t757) := (blk_cell BK760.out 0).trans rfl
     have hcz96_1 : w48.cell? ⟨gb760, 1, none⟩ = some (.int .i64 t758) := (blk_cell BK760.out 1).trans rfl
     have hfz96_0 := blk_frozen BK760.out 0
     have hfz96_1 := blk_frozen BK760.out 1
     obtain ⟨hnb97, hnc97⟩ := n2 NB764_751
     obtain ⟨hnb98, hnc98⟩ := n2 NB764_752
     obtain ⟨hnb99, hnc99⟩ := n2 NB764_768
     obtain ⟨hnb100, hnc100⟩ := n2 NB764_744
     have hcz101_0 : w48.cell? ⟨gb764, 0, none⟩ = some (.int .i64 t761) := (blk_cell BK764.out 0).trans rfl
     have hcz101_1 : w48.cell? ⟨gb764, 1, none⟩ = some (.int .i64 t762) := (blk_cell BK764.out 1).trans rfl
     have hfz101_0 := blk_frozen BK764.out 0
     have hfz101_1 := blk_frozen BK764.out 1
     obtain ⟨hnb102, hnc102⟩ := n2 NB768_751
     obtain ⟨hnb103, hnc103⟩ := n2 NB768_752
     obtain ⟨hnb104, hnc104⟩ := n2 NB768_744
     have hcz105_0 : w48.cell? ⟨gb768, 0, none⟩ = some (.int .i64 0) := (blk_cell BK768.out 0).trans rfl
     have hcz105_1 : w48.cell? ⟨gb768, 1, none⟩ = some (.int .i64 0) := (blk_cell BK768.out 1).trans rfl
     have hfz105_0 := blk_frozen BK768.out 0
     have hfz105_1 := blk_frozen BK768.out 1
     go_wp2
     go_ret
     exact ⟨by first | rfl | (simp [errW_none, errW_some] <;> rfl) | (simp [*, errW_none, errW_some] <;> rfl), by repeat (first | (with_reducible first | exact HB.out | apply below_alloc | apply pw_below_drewN | apply below_drew1 | refine below_set ?_ (IsS53.ge HI744.out) | refine below_set ?_ GE751.out | refine below_set ?_ GE752.out | refine below_set ?_ GE756.out | refine below_set ?_ GE760.out | refine below_set ?_ GE764.out | refine below_set ?_ GE768.out) | exact HB.out)⟩
   ·rw [if_neg c58] at H
    have c58b0 : (t761 == t765 && (t762 == t766)) = false := by simpa using c58
    (try (have c58b1 : decide (t761 = t765 && (t762 == t766)) = false := by simpa using c58))
    (try (have c58b2 : (t761 == t765 && (t762 == t766)) = false := by simpa using c58))
    (try (have c58b3 : ¬ (t761 = t765 && (t762 == t766)) := by simpa using c58))
    clear c58
    obtain rfl := Option.some.inj H
    obtain ⟨hnb106, hnc106⟩ := n2 NB756_751
    obtain ⟨hnb107, hnc107⟩ := n2 NB756_752
    obtain ⟨hnb108, hnc108⟩ := n2 NB756_760
    obtain ⟨hnb109, hnc109⟩ := n2 NB756_764
    obtain ⟨hnb110, hnc110⟩ := n2 NB756_768
    obtain ⟨hnb111, hnc111⟩ := n2 NB756_744
    have hcz112_0 : w48.cell? ⟨gb756, 0, none⟩ = some (.int .i64 t753) := (blk_cell BK756.out 0).trans rfl
    have hcz112_1 : w48.cell? ⟨gb756, 1, none⟩ = some (.int .i64 t754) := (blk_cell BK756.out 1).trans rfl
    have hfz112_0 := blk_frozen BK756.out 0
    have hfz112_1 := blk_frozen BK756.out 1
    obtain ⟨hnb113, hnc113⟩ := n2 NB760_751
    obtain ⟨hnb114, hnc114⟩ := n2 NB760_752
    obtain ⟨hnb115, hnc115⟩ := n2 NB760_764
    obtain ⟨hnb116, hnc116⟩ := n2 NB760_768
    obtain ⟨hnb117, hnc117⟩ := n2 NB760_744
    have hcz118_0 : w48.cell? ⟨gb760, 0, none⟩ = some (.int .i64 t757) := (blk_cell BK760.out 0).trans rfl
    have hcz118_1 : w48.cell? ⟨gb760, 1, none⟩ = some (.int .i64 t758) := (blk_cell BK760.out 1).trans rfl
    have hfz118_0 := blk_frozen BK760.out 0
    have hfz118_1 := blk_frozen BK760.out 1
    obtain ⟨hnb119, hnc119⟩ := n2 NB764_751
    obtain ⟨hnb120, hnc120⟩ := n2 NB764_752
    obtain ⟨hnb121, hnc121⟩ := n2 NB764_768
    obtain ⟨hnb122, hnc122⟩ := n2 NB764_744
    have hcz123_0 : w48.cell? ⟨gb764, 0, none⟩ = some (.int .i64 t761) := (blk_cell BK764.out 0).trans rfl
    have hcz123_1 : w48.cell? ⟨gb764, 1, none⟩ = some (.int .i64 t762) := (blk_cell BK764.out 1).trans rfl
    have hfz123_0 := blk_frozen BK764.out 0
    have hfz123_1 := blk_frozen BK764.out 1
    obtain ⟨hnb124, hnc124⟩ := n2 NB768_751
    obtain ⟨hnb125, hnc125⟩ := n2 NB768_752
    obtain ⟨hnb126, hnc126⟩ := n2 NB768_744
    have hcz127_0 : w48.cell? ⟨gb768, 0, none⟩ = some (.int .i64 0) := (blk_cell BK768.out 0).trans rfl
    have hcz127_1 : w48.cell? ⟨gb768, 1, none⟩ = some (.int .i64 0) := (blk_cell BK768.out 1).trans rfl
    have hfz127_0 := blk_frozen BK768.out 0
    have hfz127_1 := blk_frozen BK768.out 1
    go_wp2
    go_ret
    exact ⟨by first | rfl | (simp [errW_none, errW_some] <;> rfl) | (simp [*, errW_none, errW_some] <;> rfl), by repeat (first | (with_reducible first | exact HB.out | apply below_alloc | apply pw_below_drewN | apply below_drew1 | refine below_set ?_ (IsS53.ge HI744.out) | refine below_set ?_ GE751.out | refine below_set ?_ GE752.out | refine below_set ?_ GE756.out | refine below_set ?_ GE760.out | refine below_set ?_ GE764.out | refine below_set ?_ GE768.out) | exact HB.out)⟩
  ·rw [if_neg c57] at H
   have c57b0 : (t755 == t759) = false := beq_eq_false_iff_ne.mpr c57
   have c57b1 : (t755 != t759) = true := bne_iff_ne.mpr c57
   obtain rfl := Option.some.inj H
   obtain ⟨hnb128, hnc128⟩ := n2 NB756_751
   obtain ⟨hnb129, hnc129⟩ := n2 NB756_752
   obtain ⟨hnb130, hnc130⟩ := n2 NB756_760
   obtain ⟨hnb131, hnc131⟩ := n2 NB756_764
   obtain ⟨hnb132, hnc132⟩ := n2 NB756_768
   obtain ⟨hnb133, hnc133⟩ := n2 NB756_744
   have hcz134_0 : w48.cell? ⟨gb756, 0, none⟩ = some (.int .i64 t753) := (blk_cell BK756.out 0).trans rfl
   have hcz134_1 : w48.cell? ⟨gb756, 1, none⟩ = some (.int .i64 t754) := (blk_cell BK756.out 1).trans rfl
   have hfz134_0 := blk_frozen BK756.out 0
   have hfz134_1 := blk_frozen BK756.out 1
   obtain ⟨hnb135, hnc135⟩ := n2 NB760_751
   obtain ⟨hnb136, hnc136⟩ := n2 NB760_752
   obtain ⟨hnb137, hnc137⟩ := n2 NB760_764
   obtain ⟨hnb138, hnc138⟩ := n2 NB760_768
   obtain ⟨hnb139, hnc139⟩ := n2 NB760_744
   have hcz140_0 : w48.cell? ⟨gb760, 0, none⟩ = some (.int .i64 t757) := (blk_cell BK760.out 0).trans rfl
   have hcz140_1 : w48.cell? ⟨gb760, 1, none⟩ = some (.int .i64 t758) := (blk_cell BK760.out 1).trans rfl
   have hfz140_0 := blk_frozen BK760.out 0
   have hfz140_1 := blk_frozen BK760.out 1
   go_wp2
   go_ret
   exact ⟨by first | rfl | (simp [errW_none, errW_some] <;> rfl) | (simp [*, errW_none, errW_some] <;> rfl), by repeat (first | (with_reducible first | exact HB.out | apply below_alloc | apply pw_below_drewN | apply below_drew1 | refine below_set ?_ (IsS53.ge HI744.out) | refine below_set ?_ GE751.out | refine below_set ?_ GE752.out | refine below_set ?_ GE756.out | refine below_set ?_ GE760.out | refine below_set ?_ GE764.out | refine below_set ?_ GE768.out) | exact HB.out)⟩
 ·rw [if_neg c56] at H
  have c56b0 : (t753 == t757 && (t754 == t758)) = false := by simpa using c56
  (try (have c56b1 : decide (t753 = t757 && (t754 == t758)) = false := by simpa using c56))
  (try (have c56b2 : (t753 == t757 && (t754 == t758)) = false := by simpa using c56))
  (try (have c56b3 : ¬ (t753 = t757 && (t754 == t758)) := by simpa using c56))
  clear c56
  (first | rw [c56b0] | (simp only [i64_w, i32_w]; rw [c56b0]) | skip)
  obtain rfl := Option.some.inj H
  obtain ⟨hnb141, hnc141⟩ := n2 NB756_751
  obtain ⟨hnb142, hnc142⟩ := n2 NB756_752
  obtain ⟨hnb143, hnc143⟩ := n2 NB756_760
  obtain ⟨hnb144, hnc144⟩ := n2 NB756_764
  obtain ⟨hnb145, hnc145⟩ := n2 NB756_768
  obtain ⟨hnb146, hnc146⟩ := n2 NB756_744
  have hcz147_0 : w48.cell? ⟨gb756, 0, none⟩ = some (.int .i64 t753) := (blk_cell BK756.out 0).trans rfl
  have hcz147_1 : w48.cell? ⟨gb756, 1, none⟩ = some (.int .i64 t754) := (blk_cell BK756.out 1).trans rfl
  have hfz147_0 := blk_frozen BK756.out 0
  have hfz147_1 := blk_frozen BK756.out 1
  obtain ⟨hnb148, hnc148⟩ := n2 NB760_751
  obtain ⟨hnb149, hnc149⟩ := n2 NB760_752
  obtain ⟨hnb150, hnc150⟩ := n2 NB760_764
  obtain ⟨hnb151, hnc151⟩ := n2 NB760_768
  obtain ⟨hnb152, hnc152⟩ := n2 NB760_744
  have hcz153_0 : w48.cell? ⟨gb760, 0, none⟩ = some (.int .i64 t757) := (blk_cell BK760.out 0).trans rfl
  have hcz153_1 : w48.cell? ⟨gb760, 1, none⟩ = some (.int .i64 t758) := (blk_cell BK760.out 1).trans rfl
  have hfz153_0 := blk_frozen BK760.out 0
  have hfz153_1 := blk_frozen BK760.out 1
  go_wp2
  go_ret
  exact ⟨by first | rfl | (simp [errW_none, errW_some] <;> rfl) | (simp [*, errW_none, errW_some] <;> rfl), by repeat (first | (with_reducible first | exact HB.out | apply below_alloc | apply pw_below_drewN | apply below_drew1 | refine below_set ?_ (IsS53.ge HI744.out) | refine below_set ?_ GE751.out | refine below_set ?_ GE752.out | refine below_set ?_ GE756.out | refine below_set ?_ GE760.out | refine below_set ?_ GE764.out | refine below_set ?_ GE768.out) | exact HB.out)⟩

/-- THE ONE PURE STATEMENT of awardingbodylaw01_RatioAdds: yours. -/
def awardingbodylaw01_RatioAdds.Pure : Prop := ∀ (l0 : List Int), l0.length ≤ maxLen → l0.length * 8 ≤ 140737488351232 → (∀ x ∈ l0, (Lit.int .i64 x).wf = true) → ∃ k, awardingbodylaw01_RatioAdds.f k l0 = some true
theorem awardingbodylaw01_RatioAdds.walk (P : awardingbodylaw01_RatioAdds.Pure) (a0 : Option Addr) (len0 cap0 : Nat) (z0 : List Int) (w : World) (w0 : (a0 = none ∧ len0 = 0 ∧ cap0 = 0 ∧ z0 = []) ∨ ∃ x, a0 = some x ∧ len0 ≤ cap0 ∧ cap0 ≤ maxLen ∧ z0.length = cap0 ∧ (∀ i, i < z0.length → w.cell? (x.add i) = some (.int .i64 (z0.getD i 0))) ∧ ∀ n ∈ z0, (Lit.int .i64 n).wf = true) (y0 : len0 * 8 ≤ 140737488351232) :
  Calls Try.prog 11 #[.slice a0 len0 cap0] w fun e w' => e = .returned (.bool true) ∧ Below w.heap.size w w' := by
 obtain ⟨l0, rfl, hr0, hm0, hw0, hc0⟩ := ReadsInt.ofRowC w0
 obtain ⟨k, h⟩ := P l0 hm0 y0 hw0
 refine (awardingbodylaw01_RatioAdds.calls k _ _ l0 true w (Kd.C_of_reads (d := (0 : Int)) (h1 := fun _ => rfl) hr0) hc0 h).mono ?_
 rintro e w' ⟨rfl, hd⟩
 exact ⟨rfl, hd⟩

end Go.Proofs.Ytcbohbeipgcfhaa.G
