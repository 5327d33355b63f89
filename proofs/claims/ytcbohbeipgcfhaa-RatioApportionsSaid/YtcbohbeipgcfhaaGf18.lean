-- Printed by gp.py (a program of this session's own, over the kit's printer) out of the translation; Lean checks it.
import Derived.Test.YtcbohbeipgcfhaaAppC
import Derived.Test.YtcbohbeipgcfhaaG0
import Derived.Test.YtcbohbeipgcfhaaGe0
import Derived.Test.YtcbohbeipgcfhaaGf22
namespace Go.Proofs.Ytcbohbeipgcfhaa.G
open Go.Proofs.Ytcbohbeipgcfhaa.Given Go.Proofs.Ytcbohbeipgcfhaa.Short
open Go.RowKit Go.Proofs.YtcbohbeipgcfhaaW.PrintWords Go.Proofs.YtcbohbeipgcfhaaW.PrintLast Go.Proofs.YtcbohbeipgcfhaaW.PrintMore
attribute [local go_sem] max2_int min2_int max_two min_two max_three min_three max_four min_four   -- for this text's walks alone
set_option linter.unusedVariables false
set_option linter.unusedSimpArgs false

attribute [local go_sem high] eqA35
/-! ### awardingbodylaw01_awake: function 18 -/
def awardingbodylaw01_awake.f (k : Nat)  : Option (Bool) := (ratio_New.f k 6 (-4)).bind fun bt143 => ((ratio_Apportion.f 3 (([5, 3, 0] : List Int))).bind fun bt150 => (if bt143.2.2 = 0 then (if (bt143.1 == (-3) && (bt143.2.1 == 2)) = true then (if bt150.2 = 0 then (if (bt150.1.length : Int) = 3 then (if 0 < (bt150.1.length : Int) then (if (rd bt150.1 0) = 2 then (if 1 < (bt150.1.length : Int) then (if (rd bt150.1 1) = 1 then (if 2 < (bt150.1.length : Int) then (some ((rd bt150.1 2) == 0)) else (none)) else (some false)) else (none)) else (some false)) else (none)) else (some false)) else (some false)) else (some false)) else (some false)))
theorem awardingbodylaw01_awake.mono : ∀ k, LeO (awardingbodylaw01_awake.f k ) (awardingbodylaw01_awake.f (k + 1) ) := by
  intro  k
  unfold awardingbodylaw01_awake.f
  repeat' first
      | (with_reducible exact ratio_New.mono _ _ _)
      | (with_reducible exact LeO.refl _)
      | (with_reducible exact LeO.none _)
      | (with_reducible refine LeO.ite ?_ ?_)
      | (with_reducible refine LeO.bind ?_ (fun _ => ?_))
      | exact ratio_New.mono _ _ _
      | exact LeO.none _
      | refine LeO.ite ?_ ?_
      | refine LeO.bind ?_ (fun _ => ?_)
set_option maxHeartbeats 8000000 in
set_option maxRecDepth 100000 in
theorem awardingbodylaw01_awake.calls (k : Nat)  (r : Bool) (w : World) (h : awardingbodylaw01_awake.f k  = some r) :
    Calls Try.prog 18 #[] w fun e w' => e = .returned (.bool r) ∧ Below w.heap.size w w' := by
  have hu35 := Try.underlying35
  have HB := Aside0.mk (Below.refl w.heap.size w)
  have H : ((ratio_New.f k 6 (-4)).bind fun bt143 => ((ratio_Apportion.f 3 (([5, 3, 0] : List Int))).bind fun bt150 => (if bt143.2.2 = 0 then (if (bt143.1 == (-3) && (bt143.2.1 == 2)) = true then (if bt150.2 = 0 then (if (bt150.1.length : Int) = 3 then (if 0 < (bt150.1.length : Int) then (if (rd bt150.1 0) = 2 then (if 1 < (bt150.1.length : Int) then (if (rd bt150.1 1) = 1 then (if 2 < (bt150.1.length : Int) then (some ((rd bt150.1 2) == 0)) else (none)) else (some false)) else (none)) else (some false)) else (none)) else (some false)) else (some false)) else (some false)) else (some false)))) = some r := h
  clear h
  replace H := Option.bind_eq_some_iff.mp H
  obtain ⟨⟨t143, t144, t145⟩, A10, H⟩ := H
  replace H : ((ratio_Apportion.f 3 (([5, 3, 0] : List Int))).bind fun bt150 => (if t145 = 0 then (if (t143 == (-3) && (t144 == 2)) = true then (if bt150.2 = 0 then (if (bt150.1.length : Int) = 3 then (if 0 < (bt150.1.length : Int) then (if (rd bt150.1 0) = 2 then (if 1 < (bt150.1.length : Int) then (if (rd bt150.1 1) = 1 then (if 2 < (bt150.1.length : Int) then (some ((rd bt150.1 2) == 0)) else (none)) else (some false)) else (none)) else (some false)) else (none)) else (some false)) else (some false)) else (some false)) else (some false))) = some r := H
  have A1 := Aside0.mk A10
  clear A10
  obtain ⟨y147, hy147⟩ : ∃ y_ : List Int, y_ = (([5, 3, 0] : List Int)) := ⟨_, rfl⟩
  replace H : ((ratio_Apportion.f 3 y147).bind fun bt150 => (if t145 = 0 then (if (t143 == (-3) && (t144 == 2)) = true then (if bt150.2 = 0 then (if (bt150.1.length : Int) = 3 then (if 0 < (bt150.1.length : Int) then (if (rd bt150.1 0) = 2 then (if 1 < (bt150.1.length : Int) then (if (rd bt150.1 1) = 1 then (if 2 < (bt150.1.length : Int) then (some ((rd bt150.1 2) == 0)) else (none)) else (some false)) else (none)) else (some false)) else (none)) else (some false)) else (some false)) else (some false)) else (some false))) = some r := by first | (rw [hy147]; with_reducible exact H) | (have H2_ := (Option.bind_some _ _).symm.trans H; rw [hy147]; with_reducible exact H2_) | (have H2_ := (Option.bind_some _ _).symm.trans H; with_reducible exact H2_) | with_reducible exact H | (rw [hy147]; exact H) | exact H
  have Ny147 := Aside0.mk hy147
  clear hy147
  replace H := Option.bind_eq_some_iff.mp H
  obtain ⟨⟨t150, t151⟩, A20, H⟩ := H
  replace H : (if t145 = 0 then (if (t143 == (-3) && (t144 == 2)) = true then (if t151 = 0 then (if (t150.length : Int) = 3 then (if 0 < (t150.length : Int) then (if (rd t150 0) = 2 then (if 1 < (t150.length : Int) then (if (rd t150 1) = 1 then (if 2 < (t150.length : Int) then (some ((rd t150 2) == 0)) else (none)) else (some false)) else (none)) else (some false)) else (none)) else (some false)) else (some false)) else (some false)) else (some false)) = some r := H
  have A2 := Aside0.mk A20
  clear A20
  have HC3 := Aside0.mk H
  clear H
  go_enter Try.func18, Try.ntmps18
  go_upto_region 3 with (first | ((with_reducible refine gate_callee (f := 22) rfl ?_); refine goesL_ (some 6) rfl rfl Try.func22 (by kernel_rfl) rfl #[.int .i64 6, .int .i64 (-4)] rfl (by (try simp only [List.map_toArray, List.map_cons, List.map_nil]); first | done | rfl | (simp only [List.length_drop, List.length_take]; rfl)) ?_; (with_reducible refine (ratio_New.calls k 6 (-4) t143 t144 t145 _ A1.out).mono ?_); rintro e w4 ⟨rfl, hb⟩; refine ⟨_, rfl, ?_⟩; replace HB := wb HB hb; (try clear hb); (try clear hb2); (try clear hk); (try clear hi)) | ((with_reducible refine gate_dst (N := 1) rfl ?_); (try (refine gate_guard (by rfl) ?_; dsimp only)); refine box_event ?hg (N := 1) ?hd (cs := #[.int .i64 0, .int .i64 0]) (t := 35) ?hr ?_; (case hd => rfl); (case hg => rfl); (case hr => first | (go_simp; done) | (go_simp; rfl)); intro gb146 hg w5 hbox hb; have BK146 := Aside0.mk (hbox); have GW146 := gs HB hg; have GE146 := gs HB hg; replace HB := wb HB hb; clear hb hbox hg; have hcz6_0 : w5.cell? ⟨gb146, 0, none⟩ = some (.int .i64 0) := (blk_cell BK146.out 0).trans rfl; have hcz6_1 : w5.cell? ⟨gb146, 1, none⟩ = some (.int .i64 0) := (blk_cell BK146.out 1).trans rfl; have hfz6_0 := blk_frozen BK146.out 0; have hfz6_1 := blk_frozen BK146.out 1) | ((with_reducible refine gate_dst (N := 10) rfl ?_); (try (refine gate_guard (by rfl) ?_; dsimp only)); refine Kd.R_lit (Kd.int .i64) _ 3 ?hg (N := 10) ?hd (xs := ([5, 3, 0] : List Int)) (inner := [.int .i64 5, .int .i64 3, .int .i64 0]) (ok := fun _ => True) (okp := fun _ => True) ?hr ?hp (fun _ hk => hk) trivial (Below.refl _ _) (Nat.le_refl _) (by simp) ?_; (case hd => rfl); (case hg => rfl); (case hr => first | (go_simp; done) | (go_simp; rfl)); (case hp => exact (Reps.one (show Kd.M (Kd.int .i64) _ _ _ 5 [.int .i64 5] from rfl) (Reps.one (show Kd.M (Kd.int .i64) _ _ _ 3 [.int .i64 3] from rfl) (Reps.one (show Kd.M (Kd.int .i64) _ _ _ 0 [.int .i64 0] from rfl) (Reps.none _ _))))); intro v148 w7 ho8 hb hg_ hnew_; clear hg_ hnew_; (first | rw [← Ny147.out] at ho8 | (simp only [Int.reduceToNat] at ho8; rw [← Ny147.out] at ho8)); have HO149 := Aside0.mk (Kd.R_lower ho8 (below_size (bw HB))); replace BK146 := Aside0.mk (blk_below (g := gb146) (o := .cells #[.int .i64 t143, .int .i64 t144] 35 (0, 0)) (by refine pe ?_; refine blk_put (cs := #[.int .i64 t143, .int .i64 0]) ?_ 1 _ rfl; refine pe ?_; refine blk_put (cs := #[.int .i64 0, .int .i64 0]) ?_ 0 _ rfl; refine pe ?_; exact BK146.out) hb); replace HB := wb HB hb; clear hb ho8; obtain ⟨Ao9, co9, eo9⟩ := Kd.R_slice HO149.out; subst eo9) | ((with_reducible refine gate_callee (f := 15) rfl ?_); refine goesL_ (some 11) rfl rfl Try.func15 (by kernel_rfl) rfl #[.int .i64 3, .slice Ao9 y147.length co9] rfl (by (try simp only [List.map_toArray, List.map_cons, List.map_nil]); first | done | rfl | (simp only [List.length_drop, List.length_take]; rfl)) ?_; (with_reducible refine (ratio_Apportion.calls 3 _ _ y147 t150 t151 _ ?side1 ?side2 A2.out).mono ?_); (case side1 => repeat (first | exact (Kd.R_reads' HO149.out).2.2 | (with_reducible refine Kd.C_alloc ?_ _) | (with_reducible refine Kd.C_drewN ?_ _) | (with_reducible refine Kd.C_drew ?_))); (case side2 => exact (Kd.R_reads' HO149.out).2.1); rintro e w10 ⟨v152, rfl, ho0, hb⟩; refine ⟨_, rfl, ?_⟩; have HO153 := Aside0.mk (Kd.R_lower (Kd.R_new' ho0 (Kd.R_lt (by (with_reducible repeat (first | apply Kd.R_alloc | apply Kd.R_drewN | apply Kd.R_drew)); exact HO149.out))) (below_size (bw HB))); replace HO149 := Aside0.mk (Kd.R_elder' (by (with_reducible repeat (first | apply Kd.R_alloc | apply Kd.R_drewN | apply Kd.R_drew)); exact HO149.out) (Kd.R_base ho0) hb); replace BK146 := kb BK146 hb; replace HB := wb HB hb; (try clear hb); (try clear hb2); (try clear hk); (try clear hi); (try clear ho0)))
  (try simp only [Act.put, List.setIfInBounds_toArray, List.set_cons_zero, List.set_cons_succ])
  have H := HC3.out
  clear HC3
  by_cases c11 : t145 = 0
  · rw [if_pos c11] at H
    have c11b0 : (t145 == 0) = true := beq_iff_eq.mpr c11
    have c11b1 : (t145 != 0) = false := bne_eq_false_iff_eq.mpr c11
    clear c11
    (first | rw [c11b0] | (simp only [i64_w, i32_w]; rw [c11b0]) | skip)
    by_cases c12 : (t143 == (-3) && (t144 == 2)) = true
    · rw [if_pos c12] at H
      have c12b0 : (t143 == (-3) && (t144 == 2)) = true := c12
      (try (have c12b1 : decide (t143 = (-3) && (t144 == 2)) = true := by simpa using c12))
      (try (have c12b2 : (t143 == (-3) && (t144 == 2)) = true := by simpa using c12))
      clear c12
      by_cases c13 : t151 = 0
      · rw [if_pos c13] at H
        have c13b0 : (t151 == 0) = true := beq_iff_eq.mpr c13
        have c13b1 : (t151 != 0) = false := bne_eq_false_iff_eq.mpr c13
        clear c13
        by_cases c14 : (t150.length : Int) = 3
        · rw [if_pos c14] at H
          have c14b0 : ((t150.length : Int) == 3) = true := beq_iff_eq.mpr c14
          have c14b1 : ((t150.length : Int) != 3) = false := bne_eq_false_iff_eq.mpr c14
          clear c14
          by_cases c15 : 0 < (t150.length : Int)
          · rw [if_pos c15] at H
            have c15b0 : decide (0 < (t150.length : Int)) = true := decide_eq_true c15
            have c15b1 : decide (0 < t150.length) = true := decide_eq_true (by omega)
            clear c15
            by_cases c16 : (rd t150 0) = 2
            · rw [if_pos c16] at H
              have c16b0 : ((rd t150 0) == 2) = true := beq_iff_eq.mpr c16
              have c16b1 : ((rd t150 0) != 2) = false := bne_eq_false_iff_eq.mpr c16
              clear c16
              by_cases c17 : 1 < (t150.length : Int)
              · rw [if_pos c17] at H
                have c17b0 : decide (1 < (t150.length : Int)) = true := decide_eq_true c17
                have c17b1 : decide (1 < t150.length) = true := decide_eq_true (by omega)
                clear c17
                by_cases c18 : (rd t150 1) = 1
                · rw [if_pos c18] at H
                  have c18b0 : ((rd t150 1) == 1) = true := beq_iff_eq.mpr c18
                  have c18b1 : ((rd t150 1) != 1) = false := bne_eq_false_iff_eq.mpr c18
                  clear c18
                  by_cases c19 : 2 < (t150.length : Int)
                  · rw [if_pos c19] at H
                    have c19b0 : decide (2 < (t150.length : Int)) = true := decide_eq_true c19
                    have c19b1 : decide (2 < t150.length) = true := decide_eq_true (by omega)
                    clear c19
                    obtain rfl := Option.some.inj H
                    have hcz20_0 : w10.cell? ⟨gb146, 0, none⟩ = some (.int .i64 t143) := (blk_cell BK146.out 0).trans rfl
                    have hcz20_1 : w10.cell? ⟨gb146, 1, none⟩ = some (.int .i64 t144) := (blk_cell BK146.out 1).trans rfl
                    have hfz20_0 := blk_frozen BK146.out 0
                    have hfz20_1 := blk_frozen BK146.out 1
                    obtain ⟨Ao21, co21, eo21⟩ := Kd.R_slice HO153.out
                    subst eo21
                    have p154 : 0 ≤ (0 : Int) := (by omega)
                    have q154 : 0 < (t150.length : Int) := of_decide_eq_true (by first | (with_reducible assumption) | assumption)
                    obtain ⟨ad154, e154, hx154_0⟩ := Kd.at_int (Kd.R_reads' HO153.out).2.2 0 p154 q154
                    cases e154
                    have qi154 : (0 < t150.length) = True := eq_true (by omega)
                    (try rw [show ((0 : Int)).toNat = 0 from rfl] at hx154_0)
                    (try rw [Addr.add_zero'] at hx154_0)
                    replace p154 := eq_true p154
                    replace q154 := eq_true q154
                    have p155 : 0 ≤ (1 : Int) := (by omega)
                    have q155 : 1 < (t150.length : Int) := of_decide_eq_true (by first | (with_reducible assumption) | assumption)
                    obtain ⟨ad155, e155, hx155_0⟩ := Kd.at_int (Kd.R_reads' HO153.out).2.2 1 p155 q155
                    obtain rfl : ad154 = ad155 := (by injection e155)
                    (try simp only [show (1 : Int).toNat = 1 from rfl, Nat.reduceMul, Nat.reduceEqDiff, Go.Addr.add, ↓reduceIte] at hx155_0)
                    have qi155 : (1 < t150.length) = True := eq_true (by omega)
                    (try rw [show ((1 : Int)).toNat = 1 from rfl] at hx155_0)
                    replace p155 := eq_true p155
                    replace q155 := eq_true q155
                    have p156 : 0 ≤ (2 : Int) := (by omega)
                    have q156 : 2 < (t150.length : Int) := of_decide_eq_true (by first | (with_reducible assumption) | assumption)
                    obtain ⟨ad156, e156, hx156_0⟩ := Kd.at_int (Kd.R_reads' HO153.out).2.2 2 p156 q156
                    obtain rfl : ad154 = ad156 := (by injection e156)
                    (try simp only [show (2 : Int).toNat = 2 from rfl, Nat.reduceMul, Nat.reduceEqDiff, Go.Addr.add, ↓reduceIte] at hx156_0)
                    have qi156 : (2 < t150.length) = True := eq_true (by omega)
                    (try rw [show ((2 : Int)).toNat = 2 from rfl] at hx156_0)
                    replace p156 := eq_true p156
                    replace q156 := eq_true q156
                    go_wp2
                    go_ret
                    exact ⟨by first | rfl | (simp [errW_none, errW_some] <;> rfl) | (simp [*, errW_none, errW_some] <;> rfl), bw HB⟩
                  · rw [if_neg c19] at H
                    exact absurd H (by simp)
                · rw [if_neg c18] at H
                  have c18b0 : ((rd t150 1) == 1) = false := beq_eq_false_iff_ne.mpr c18
                  have c18b1 : ((rd t150 1) != 1) = true := bne_iff_ne.mpr c18
                  obtain rfl := Option.some.inj H
                  have hcz22_0 : w10.cell? ⟨gb146, 0, none⟩ = some (.int .i64 t143) := (blk_cell BK146.out 0).trans rfl
                  have hcz22_1 : w10.cell? ⟨gb146, 1, none⟩ = some (.int .i64 t144) := (blk_cell BK146.out 1).trans rfl
                  have hfz22_0 := blk_frozen BK146.out 0
                  have hfz22_1 := blk_frozen BK146.out 1
                  obtain ⟨Ao23, co23, eo23⟩ := Kd.R_slice HO153.out
                  subst eo23
                  have p154 : 0 ≤ (0 : Int) := (by omega)
                  have q154 : 0 < (t150.length : Int) := of_decide_eq_true (by first | (with_reducible assumption) | assumption)
                  obtain ⟨ad154, e154, hx154_0⟩ := Kd.at_int (Kd.R_reads' HO153.out).2.2 0 p154 q154
                  cases e154
                  have qi154 : (0 < t150.length) = True := eq_true (by omega)
                  (try rw [show ((0 : Int)).toNat = 0 from rfl] at hx154_0)
                  (try rw [Addr.add_zero'] at hx154_0)
                  replace p154 := eq_true p154
                  replace q154 := eq_true q154
                  have p155 : 0 ≤ (1 : Int) := (by omega)
                  have q155 : 1 < (t150.length : Int) := of_decide_eq_true (by first | (with_reducible assumption) | assumption)
                  obtain ⟨ad155, e155, hx155_0⟩ := Kd.at_int (Kd.R_reads' HO153.out).2.2 1 p155 q155
                  obtain rfl : ad154 = ad155 := (by injection e155)
                  (try simp only [show (1 : Int).toNat = 1 from rfl, Nat.reduceMul, Nat.reduceEqDiff, Go.Addr.add, ↓reduceIte] at hx155_0)
                  have qi155 : (1 < t150.length) = True := eq_true (by omega)
                  (try rw [show ((1 : Int)).toNat = 1 from rfl] at hx155_0)
                  replace p155 := eq_true p155
                  replace q155 := eq_true q155
                  go_wp2
                  go_ret
                  exact ⟨by first | rfl | (simp [errW_none, errW_some] <;> rfl) | (simp [*, errW_none, errW_some] <;> rfl), bw HB⟩
              · rw [if_neg c17] at H
                exact absurd H (by simp)
            · rw [if_neg c16] at H
              have c16b0 : ((rd t150 0) == 2) = false := beq_eq_false_iff_ne.mpr c16
              have c16b1 : ((rd t150 0) != 2) = true := bne_iff_ne.mpr c16
              obtain rfl := Option.some.inj H
              have hcz24_0 : w10.cell? ⟨gb146, 0, none⟩ = some (.int .i64 t143) := (blk_cell BK146.out 0).trans rfl
              have hcz24_1 : w10.cell? ⟨gb146, 1, none⟩ = some (.int .i64 t144) := (blk_cell BK146.out 1).trans rfl
              have hfz24_0 := blk_frozen BK146.out 0
              have hfz24_1 := blk_frozen BK146.out 1
              obtain ⟨Ao25, co25, eo25⟩ := Kd.R_slice HO153.out
              subst eo25
              have p154 : 0 ≤ (0 : Int) := (by omega)
              have q154 : 0 < (t150.length : Int) := of_decide_eq_true (by first | (with_reducible assumption) | assumption)
              obtain ⟨ad154, e154, hx154_0⟩ := Kd.at_int (Kd.R_reads' HO153.out).2.2 0 p154 q154
              cases e154
              have qi154 : (0 < t150.length) = True := eq_true (by omega)
              (try rw [show ((0 : Int)).toNat = 0 from rfl] at hx154_0)
              (try rw [Addr.add_zero'] at hx154_0)
              replace p154 := eq_true p154
              replace q154 := eq_true q154
              go_wp2
              go_ret
              exact ⟨by first | rfl | (simp [errW_none, errW_some] <;> rfl) | (simp [*, errW_none, errW_some] <;> rfl), bw HB⟩
          · rw [if_neg c15] at H
            exact absurd H (by simp)
        · rw [if_neg c14] at H
          have c14b0 : ((t150.length : Int) == 3) = false := beq_eq_false_iff_ne.mpr c14
          have c14b1 : ((t150.length : Int) != 3) = true := bne_iff_ne.mpr c14
          obtain rfl := Option.some.inj H
          have hcz26_0 : w10.cell? ⟨gb146, 0, none⟩ = some (.int .i64 t143) := (blk_cell BK146.out 0).trans rfl
          have hcz26_1 : w10.cell? ⟨gb146, 1, none⟩ = some (.int .i64 t144) := (blk_cell BK146.out 1).trans rfl
          have hfz26_0 := blk_frozen BK146.out 0
          have hfz26_1 := blk_frozen BK146.out 1
          obtain ⟨Ao27, co27, eo27⟩ := Kd.R_slice HO153.out
          subst eo27
          go_wp2
          go_ret
          exact ⟨by first | rfl | (simp [errW_none, errW_some] <;> rfl) | (simp [*, errW_none, errW_some] <;> rfl), bw HB⟩
      · rw [if_neg c13] at H
        have c13b0 : (t151 == 0) = false := beq_eq_false_iff_ne.mpr c13
        have c13b1 : (t151 != 0) = true := bne_iff_ne.mpr c13
        obtain rfl := Option.some.inj H
        have hcz28_0 : w10.cell? ⟨gb146, 0, none⟩ = some (.int .i64 t143) := (blk_cell BK146.out 0).trans rfl
        have hcz28_1 : w10.cell? ⟨gb146, 1, none⟩ = some (.int .i64 t144) := (blk_cell BK146.out 1).trans rfl
        have hfz28_0 := blk_frozen BK146.out 0
        have hfz28_1 := blk_frozen BK146.out 1
        go_wp2
        go_ret
        exact ⟨by first | rfl | (simp [errW_none, errW_some] <;> rfl) | (simp [*, errW_none, errW_some] <;> rfl), bw HB⟩
    · rw [if_neg c12] at H
      have c12b0 : (t143 == (-3) && (t144 == 2)) = false := by simpa using c12
      (try (have c12b1 : decide (t143 = (-3) && (t144 == 2)) = false := by simpa using c12))
      (try (have c12b2 : (t143 == (-3) && (t144 == 2)) = false := by simpa using c12))
      (try (have c12b3 : ¬ (t143 = (-3) && (t144 == 2)) := by simpa using c12))
      clear c12
      obtain rfl := Option.some.inj H
      have hcz29_0 : w10.cell? ⟨gb146, 0, none⟩ = some (.int .i64 t143) := (blk_cell BK146.out 0).trans rfl
      have hcz29_1 : w10.cell? ⟨gb146, 1, none⟩ = some (.int .i64 t144) := (blk_cell BK146.out 1).trans rfl
      have hfz29_0 := blk_frozen BK146.out 0
      have hfz29_1 := blk_frozen BK146.out 1
      go_wp2
      go_ret
      exact ⟨by first | rfl | (simp [errW_none, errW_some] <;> rfl) | (simp [*, errW_none, errW_some] <;> rfl), bw HB⟩
  · rw [if_neg c11] at H
    have c11b0 : (t145 == 0) = false := beq_eq_false_iff_ne.mpr c11
    have c11b1 : (t145 != 0) = true := bne_iff_ne.mpr c11
    (first | rw [c11b0] | (simp only [i64_w, i32_w]; rw [c11b0]) | skip)
    obtain rfl := Option.some.inj H
    go_wp2
    go_ret
    exact ⟨by first | rfl | (simp [errW_none, errW_some] <;> rfl) | (simp [*, errW_none, errW_some] <;> rfl), bw HB⟩

end Go.Proofs.Ytcbohbeipgcfhaa.G
