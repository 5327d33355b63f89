-- Printed by gp.py (a program of this session's own, over the kit's printer) out of the translation; Lean checks it.
import Derived.Test.YtcbohbeipgcfhaaG0
namespace Go.Proofs.Ytcbohbeipgcfhaa.G
open Go.Proofs.Ytcbohbeipgcfhaa.Given Go.Proofs.Ytcbohbeipgcfhaa.Short
open Go.RowKit Go.Proofs.YtcbohbeipgcfhaaW.PrintWords Go.Proofs.YtcbohbeipgcfhaaW.PrintLast Go.Proofs.YtcbohbeipgcfhaaW.PrintMore
attribute [local go_sem] max2_int min2_int max_two min_two max_three min_three max_four min_four   -- for this text's walks alone
set_option linter.unusedVariables false
set_option linter.unusedSimpArgs false

/-! ### awardingbodyref01_Apportion: function 16 -/
mutual
def awardingbodyref01_Apportion.j0 : Nat → Int → List Int → Bool → Option (List Int × Int)
  | 0, _, _, _ => none
  | k + 1, x0, x1, x22 => if x22 = true then (some (([] : List Int), 2)) else (awardingbodyref01_Apportion.l0 k x0 x1 0 0)
def awardingbodyref01_Apportion.l0 : Nat → Int → List Int → Int → Int → Option (List Int × Int)
  | 0, _, _, _, _ => none
  | k + 1, x0, x1, x6, x7 => if x7 < (x1.length : Int) then (if 0 ≤ x7 then (if (rd x1 x7) < 0 then (some (([] : List Int), 2)) else (if (rd x1 x7) > 1073741824 then (some (([] : List Int), 2)) else (awardingbodyref01_Apportion.l0 k x0 x1 (wrap64 (x6 + (rd x1 x7))) (wrap64 (x7 + 1))))) else (none)) else (if x6 = 0 then (some (([] : List Int), 10)) else (if 0 ≤ (x1.length : Int) then (if ((x1.length : Int) : Int).toNat ≤ 35184372088832 then (awardingbodyref01_Apportion.l1 k x0 x1 x6 (List.replicate ((x1.length : Int) : Int).toNat 0) (List.replicate ((x1.length : Int) : Int).toNat 0) x0 0) else (none)) else (none)))
def awardingbodyref01_Apportion.l1 : Nat → Int → List Int → Int → List Int → List Int → Int → Int → Option (List Int × Int)
  | 0, _, _, _, _, _, _, _ => none
  | k + 1, x0, x1, x6, x8, x9, x10, x11 => if x11 < (x1.length : Int) then (if 0 ≤ x11 then (if x6 = 0 then (none) else (if x11 < (x8.length : Int) then ((some (x8.set (x11 : Int).toNat (wrap64 (Int.tdiv (wrap64 (x0 * (rd x1 x11))) x6)) : List Int)).bind fun y111 => (if x11 < (x9.length : Int) then (awardingbodyref01_Apportion.l1 k x0 x1 x6 y111 (x9.set (x11 : Int).toNat (Int.tmod (wrap64 (x0 * (rd x1 x11))) x6)) (wrap64 (x10 - (rd y111 x11))) (wrap64 (x11 + 1))) else (none))) else (none))) else (none)) else (awardingbodyref01_Apportion.l2 k x8 x9 x10)
def awardingbodyref01_Apportion.l2 : Nat → List Int → List Int → Int → Option (List Int × Int)
  | 0, _, _, _ => none
  | k + 1, x8, x9, x10 => if x10 > 0 then (awardingbodyref01_Apportion.l3 k x8 x9 x10 0 1) else (some (x8, 0))
def awardingbodyref01_Apportion.l3 : Nat → List Int → List Int → Int → Int → Int → Option (List Int × Int)
  | 0, _, _, _, _, _ => none
  | k + 1, x8, x9, x10, x12, x13 => if x13 < (x9.length : Int) then (if 0 ≤ x13 then (if 0 ≤ x12 then (if x12 < (x9.length : Int) then (if (rd x9 x13) > (rd x9 x12) then (awardingbodyref01_Apportion.l3 k x8 x9 x10 x13 (wrap64 (x13 + 1))) else (awardingbodyref01_Apportion.l3 k x8 x9 x10 x12 (wrap64 (x13 + 1)))) else (none)) else (none)) else (none)) else (if 0 ≤ x12 then (if x12 < (x8.length : Int) then (if x12 < (x9.length : Int) then (awardingbodyref01_Apportion.l2 k (x8.set (x12 : Int).toNat (wrap64 ((rd x8 x12) + 1))) (x9.set (x12 : Int).toNat (-1)) (wrap64 (x10 - 1))) else (none)) else (none)) else (none))
end
def awardingbodyref01_Apportion.f (k : Nat) (a0 : Int) (l1 : List Int) : Option (List Int × Int) := if (l1.length : Int) > 100 then (some (([] : List Int), 3)) else (if a0 < 0 then (awardingbodyref01_Apportion.j0 k a0 l1 true) else (awardingbodyref01_Apportion.j0 k a0 l1 (decide (a0 > 1073741824))))
theorem awardingbodyref01_Apportion.mono_l : ∀ k, (∀ y0 y1 y2, LeO (awardingbodyref01_Apportion.j0 k y0 y1 y2) (awardingbodyref01_Apportion.j0 (k + 1) y0 y1 y2)) ∧ (∀ y0 y1 y2 y3, LeO (awardingbodyref01_Apportion.l0 k y0 y1 y2 y3) (awardingbodyref01_Apportion.l0 (k + 1) y0 y1 y2 y3)) ∧ (∀ y0 y1 y2 y3 y4 y5 y6, LeO (awardingbodyref01_Apportion.l1 k y0 y1 y2 y3 y4 y5 y6) (awardingbodyref01_Apportion.l1 (k + 1) y0 y1 y2 y3 y4 y5 y6)) ∧ (∀ y0 y1 y2, LeO (awardingbodyref01_Apportion.l2 k y0 y1 y2) (awardingbodyref01_Apportion.l2 (k + 1) y0 y1 y2)) ∧ (∀ y0 y1 y2 y3 y4, LeO (awardingbodyref01_Apportion.l3 k y0 y1 y2 y3 y4) (awardingbodyref01_Apportion.l3 (k + 1) y0 y1 y2 y3 y4))
  | 0 => ⟨fun _ _ _ r h => by simp [awardingbodyref01_Apportion.j0] at h, fun _ _ _ _ r h => by simp [awardingbodyref01_Apportion.l0] at h, fun _ _ _ _ _ _ _ r h => by simp [awardingbodyref01_Apportion.l1] at h, fun _ _ _ r h => by simp [awardingbodyref01_Apportion.l2] at h, fun _ _ _ _ _ r h => by simp [awardingbodyref01_Apportion.l3] at h⟩
  | k + 1 => by
    obtain ⟨ih0, ih1, ih2, ih3, ih4⟩ := awardingbodyref01_Apportion.mono_l k
    refine ⟨?_, ?_, ?_, ?_, ?_⟩
    · intro y0 y1 y2
      unfold awardingbodyref01_Apportion.j0
      repeat' first
      | (with_reducible exact ih0 _ _ _)
      | (with_reducible exact ih1 _ _ _ _)
      | (with_reducible exact ih2 _ _ _ _ _ _ _)
      | (with_reducible exact ih3 _ _ _)
      | (with_reducible exact ih4 _ _ _ _ _)
      | (with_reducible exact LeO.refl _)
      | (with_reducible exact LeO.none _)
      | (with_reducible refine LeO.ite ?_ ?_)
      | (with_reducible refine LeO.bind ?_ (fun _ => ?_))
      | exact ih0 _ _ _
      | exact ih1 _ _ _ _
      | exact ih2 _ _ _ _ _ _ _
      | exact ih3 _ _ _
      | exact ih4 _ _ _ _ _
      | exact LeO.none _
      | refine LeO.ite ?_ ?_
      | refine LeO.bind ?_ (fun _ => ?_)
    · intro y0 y1 y2 y3
      unfold awardingbodyref01_Apportion.l0
      repeat' first
      | (with_reducible exact ih0 _ _ _)
      | (with_reducible exact ih1 _ _ _ _)
      | (with_reducible exact ih2 _ _ _ _ _ _ _)
      | (with_reducible exact ih3 _ _ _)
      | (with_reducible exact ih4 _ _ _ _ _)
      | (with_reducible exact LeO.refl _)
      | (with_reducible exact LeO.none _)
      | (with_reducible refine LeO.ite ?_ ?_)
      | (with_reducible refine LeO.bind ?_ (fun _ => ?_))
      | exact ih0 _ _ _
      | exact ih1 _ _ _ _
      | exact ih2 _ _ _ _ _ _ _
      | exact ih3 _ _ _
      | exact ih4 _ _ _ _ _
      | exact LeO.none _
      | refine LeO.ite ?_ ?_
      | refine LeO.bind ?_ (fun _ => ?_)
    · intro y0 y1 y2 y3 y4 y5 y6
      unfold awardingbodyref01_Apportion.l1
      repeat' first
      | (with_reducible exact ih0 _ _ _)
      | (with_reducible exact ih1 _ _ _ _)
      | (with_reducible exact ih2 _ _ _ _ _ _ _)
      | (with_reducible exact ih3 _ _ _)
      | (with_reducible exact ih4 _ _ _ _ _)
      | (with_reducible exact LeO.refl _)
      | (with_reducible exact LeO.none _)
      | (with_reducible refine LeO.ite ?_ ?_)
      | (with_reducible refine LeO.bind ?_ (fun _ => ?_))
      | exact ih0 _ _ _
      | exact ih1 _ _ _ _
      | exact ih2 _ _ _ _ _ _ _
      | exact ih3 _ _ _
      | exact ih4 _ _ _ _ _
      | exact LeO.none _
      | refine LeO.ite ?_ ?_
      | refine LeO.bind ?_ (fun _ => ?_)
    · intro y0 y1 y2
      unfold awardingbodyref01_Apportion.l2
      repeat' first
      | (with_reducible exact ih0 _ _ _)
      | (with_reducible exact ih1 _ _ _ _)
      | (with_reducible exact ih2 _ _ _ _ _ _ _)
      | (with_reducible exact ih3 _ _ _)
      | (with_reducible exact ih4 _ _ _ _ _)
      | (with_reducible exact LeO.refl _)
      | (with_reducible exact LeO.none _)
      | (with_reducible refine LeO.ite ?_ ?_)
      | (with_reducible refine LeO.bind ?_ (fun _ => ?_))
      | exact ih0 _ _ _
      | exact ih1 _ _ _ _
      | exact ih2 _ _ _ _ _ _ _
      | exact ih3 _ _ _
      | exact ih4 _ _ _ _ _
      | exact LeO.none _
      | refine LeO.ite ?_ ?_
      | refine LeO.bind ?_ (fun _ => ?_)
    · intro y0 y1 y2 y3 y4
      unfold awardingbodyref01_Apportion.l3
      repeat' first
      | (with_reducible exact ih0 _ _ _)
      | (with_reducible exact ih1 _ _ _ _)
      | (with_reducible exact ih2 _ _ _ _ _ _ _)
      | (with_reducible exact ih3 _ _ _)
      | (with_reducible exact ih4 _ _ _ _ _)
      | (with_reducible exact LeO.refl _)
      | (with_reducible exact LeO.none _)
      | (with_reducible refine LeO.ite ?_ ?_)
      | (with_reducible refine LeO.bind ?_ (fun _ => ?_))
      | exact ih0 _ _ _
      | exact ih1 _ _ _ _
      | exact ih2 _ _ _ _ _ _ _
      | exact ih3 _ _ _
      | exact ih4 _ _ _ _ _
      | exact LeO.none _
      | refine LeO.ite ?_ ?_
      | refine LeO.bind ?_ (fun _ => ?_)
theorem awardingbodyref01_Apportion.mono : ∀ a0 a1 k, LeO (awardingbodyref01_Apportion.f k a0 a1) (awardingbodyref01_Apportion.f (k + 1) a0 a1) := by
  intro a0 a1 k
  obtain ⟨ih0, ih1, ih2, ih3, ih4⟩ := awardingbodyref01_Apportion.mono_l k
  unfold awardingbodyref01_Apportion.f
  repeat' first
      | (with_reducible exact ih0 _ _ _)
      | (with_reducible exact ih1 _ _ _ _)
      | (with_reducible exact ih2 _ _ _ _ _ _ _)
      | (with_reducible exact ih3 _ _ _)
      | (with_reducible exact ih4 _ _ _ _ _)
      | (with_reducible exact LeO.refl _)
      | (with_reducible exact LeO.none _)
      | (with_reducible refine LeO.ite ?_ ?_)
      | (with_reducible refine LeO.bind ?_ (fun _ => ?_))
      | exact ih0 _ _ _
      | exact ih1 _ _ _ _
      | exact ih2 _ _ _ _ _ _ _
      | exact ih3 _ _ _
      | exact ih4 _ _ _ _ _
      | exact LeO.none _
      | refine LeO.ite ?_ ?_
      | refine LeO.bind ?_ (fun _ => ?_)
set_option maxHeartbeats 8000000 in
set_option maxRecDepth 100000 in
theorem awardingbodyref01_Apportion.calls (k : Nat) (a0 : Int) (A1 : Option Addr) (c1 : Nat) (l1 : List Int) (r1 : List Int) (r2 : Int) (w : World) (hr1 : Kd.C (Kd.int .i64) w A1 l1.length l1) (hc1 : l1.length ≤ c1) (h : awardingbodyref01_Apportion.f k a0 l1 = some (r1, r2)) :
    Calls Try.prog 16 #[.int .i64 a0, .slice A1 l1.length c1] w fun e w' => ∃ v0_ : Value, e = .returned (.tuple #[v0_, .int .i64 r2]) ∧ Kd.R (Kd.int .i64) 3 w' w.heap.size (fun _ => True) v0_ r1 ∧ Below w.heap.size w w' := by
  have HR1 := Aside0.mk hr1
  have HC1 := Aside0.mk hc1
  clear hr1 hc1
  have HB := Aside0.mk (Below.refl w.heap.size w)
  have H : (if (l1.length : Int) > 100 then (some (([] : List Int), 3)) else (if a0 < 0 then (awardingbodyref01_Apportion.j0 k a0 l1 true) else (awardingbodyref01_Apportion.j0 k a0 l1 (decide (a0 > 1073741824))))) = some (r1, r2) := h
  clear h
  by_cases c3 : (l1.length : Int) > 100
  · rw [if_pos c3] at H
    have c3b0 : decide (100 < (l1.length : Int)) = true := decide_eq_true c3
    have c3b1 : decide (100 < l1.length) = true := decide_eq_true (by omega)
    clear c3
    simp only [Option.some.injEq, Prod.mk.injEq] at H
    obtain ⟨rfl, rfl⟩ := H
    go_enter Try.func16, Try.ntmps16
    go_wp2
    repeat (go_quiet (fail); try go_wp2)
    go_ret2
    exact ⟨_, by first | rfl | (simp [errW_none, errW_some] <;> rfl) | (simp [*, errW_none, errW_some] <;> rfl), by first | exact Kd.R_nil _ _ _ _ _ | exact Kd.N_nil _ _ _ _ _ | exact Kd.V_nil _ _ _ _ _ | exact Kd.Q_nil _ _ _ _ _ | exact Kd.S_nil _ _ _ _ _, bw HB⟩
  · rw [if_neg c3] at H
    have c3b0 : decide (100 < (l1.length : Int)) = false := decide_eq_false c3
    have c3b1 : decide (100 < l1.length) = false := decide_eq_false (by omega)
    clear c3
    have HC4 := Aside0.mk H
    clear H
    go_enter Try.func16, Try.ntmps16
    go_upto_region 3 with (fail)
    repeat (go_quiet (fail); go_upto_region 3 with (fail))
    go_cut [22] (fun v22 wc => ∃ (kq : Nat) (x22_3 : Bool), v22 = .bool x22_3 ∧ Aside0 (awardingbodyref01_Apportion.j0 kq a0 l1 x22_3 = some (r1, r2)) ∧ Aside0 (kq ≤ k) ∧ Aside0 (Below w.heap.size w wc))
    case first =>
      have H := HC4.out
      clear HC4
      by_cases c5 : a0 < 0
      · rw [if_pos c5] at H
        have c5b0 : decide (a0 < 0) = true := decide_eq_true c5
        clear c5
        (first | rw [c5b0] | (simp only [i64_w, i32_w]; rw [c5b0]) | skip)
        have H' := Aside0.mk H
        clear H
        go_wp2
        repeat (go_quiet (fail); try go_wp2)
        go_meet
        case rel => exact ⟨_, (true), (by first | rfl | (simp; done) | (simp [*]; done)), H', ⟨by first | omega | exact Nat.le_refl _⟩, ⟨bw HB⟩⟩
      · rw [if_neg c5] at H
        have c5b0 : decide (a0 < 0) = false := decide_eq_false c5
        clear c5
        (first | rw [c5b0] | (simp only [i64_w, i32_w]; rw [c5b0]) | skip)
        have H' := Aside0.mk H
        clear H
        go_wp2
        repeat (go_quiet (fail); try go_wp2)
        go_meet
        case rel => exact ⟨_, (decide (a0 > 1073741824)), (by first | rfl | (simp; done) | (simp [*]; done)), H', ⟨by first | omega | exact Nat.le_refl _⟩, ⟨bw HB⟩⟩
    case rest =>
      clear HC4
      try clear c1
      try clear p2
      try clear c3
      try clear c3b0
      try clear c3b1
      try clear c5
      try clear c5b0
      obtain ⟨kq, x22_3, rfl, HA, HJ3, HB⟩ := hcut
      cases kq with
      | zero => exact absurd HA.out (by simp [awardingbodyref01_Apportion.j0])
      | succ kj3 =>
        have H := HA.out
        clear HA
        simp only [awardingbodyref01_Apportion.j0] at H
        by_cases c6 : x22_3 = true
        · subst c6
          have H1 : (some (([] : List Int), 2)) = some (r1, r2) := by rw [if_pos rfl] at H; exact H
          clear H
          have H := H1
          clear H1
          simp only [Option.some.injEq, Prod.mk.injEq] at H
          obtain ⟨rfl, rfl⟩ := H
          go_wp2
          repeat (go_quiet (fail); try go_wp2)
          go_ret2
          exact ⟨_, by first | rfl | (simp [errW_none, errW_some] <;> rfl) | (simp [*, errW_none, errW_some] <;> rfl), by first | exact Kd.R_nil _ _ _ _ _ | exact Kd.N_nil _ _ _ _ _ | exact Kd.V_nil _ _ _ _ _ | exact Kd.Q_nil _ _ _ _ _ | exact Kd.S_nil _ _ _ _ _, bw HB⟩
        · replace c6 := Bool.eq_false_iff.mpr c6
          subst c6
          have H1 : (awardingbodyref01_Apportion.l0 kj3 a0 l1 0 0) = some (r1, r2) := by rw [if_neg (show ¬ (false = true) by decide)] at H; exact H
          clear H
          have H := H1
          clear H1
          have H' := Aside0.mk H
          clear H
          go_wp2
          repeat (go_quiet (fail); try go_wp2)
          (try simp only [Act.put, List.setIfInBounds_toArray, List.set_cons_zero, List.set_cons_succ])
          go_loopg [6, 7] kj3 (fun kq v6 v7 w' => ∃ (x6_2 : Int) (x7_2 : Int), v6 = .int .i64 x6_2 ∧ v7 = .int .i64 x7_2 ∧ Aside0 (awardingbodyref01_Apportion.l0 kq a0 l1 x6_2 x7_2 = some (r1, r2)) ∧ Aside0 (kq ≤ kj3) ∧ Aside0 (Below w.heap.size w w'))
          case atStart => exact ⟨(0), (0), (by first | rfl | (simp; done) | (simp [*]; done)), (by first | rfl | (simp; done) | (simp [*]; done)), H', ⟨Nat.le_refl _⟩, ⟨bw HB⟩⟩
          case round =>
            clear H'
            try clear c1
            try clear p2
            try clear c3
            try clear c3b0
            try clear c3b1
            try clear c5
            try clear c5b0
            try clear c6
            try clear p2
            obtain ⟨x6_2, x7_2, rfl, rfl, HA, HK2, HB⟩ := hrel
            cases gk with
            | zero => exact absurd HA.out (by simp [awardingbodyref01_Apportion.l0])
            | succ k2 =>
              have H := HA.out
              clear HA
              simp only [awardingbodyref01_Apportion.l0] at H
              by_cases c7 : x7_2 < (l1.length : Int)
              · rw [if_pos c7] at H
                have c7b0 : decide (x7_2 < (l1.length : Int)) = true := decide_eq_true c7
                clear c7
                by_cases c8 : 0 ≤ x7_2
                · rw [if_pos c8] at H
                  have c8b0 : decide (0 ≤ x7_2) = true := decide_eq_true c8
                  clear c8
                  by_cases c9 : (rd l1 x7_2) < 0
                  · rw [if_pos c9] at H
                    have c9b0 : decide ((rd l1 x7_2) < 0) = true := decide_eq_true c9
                    clear c9
                    simp only [Option.some.injEq, Prod.mk.injEq] at H
                    obtain ⟨rfl, rfl⟩ := H
                    have p101 : 0 ≤ (x7_2 : Int) := of_decide_eq_true (by first | (with_reducible assumption) | assumption)
                    have q101 : x7_2 < (l1.length : Int) := of_decide_eq_true (by first | (with_reducible assumption) | assumption)
                    obtain ⟨ad101, e101, hx101_0⟩ := Kd.at_int HR1.out x7_2 p101 q101
                    cases e101
                    replace hx101_0 := (HB.out.cell (World.block_lt_of_cell? w _ hx101_0)).trans hx101_0
                    replace p101 := eq_true p101
                    replace q101 := eq_true q101
                    go_wp2
                    repeat (go_quiet (fail); try go_wp2)
                    go_ret2
                    exact ⟨_, by first | rfl | (simp [errW_none, errW_some] <;> rfl) | (simp [*, errW_none, errW_some] <;> rfl), by first | exact Kd.R_nil _ _ _ _ _ | exact Kd.N_nil _ _ _ _ _ | exact Kd.V_nil _ _ _ _ _ | exact Kd.Q_nil _ _ _ _ _ | exact Kd.S_nil _ _ _ _ _, bw HB⟩
                  · rw [if_neg c9] at H
                    have c9b0 : decide ((rd l1 x7_2) < 0) = false := decide_eq_false c9
                    clear c9
                    by_cases c10 : (rd l1 x7_2) > 1073741824
                    · rw [if_pos c10] at H
                      have c10b0 : decide (1073741824 < (rd l1 x7_2)) = true := decide_eq_true c10
                      clear c10
                      simp only [Option.some.injEq, Prod.mk.injEq] at H
                      obtain ⟨rfl, rfl⟩ := H
                      have p101 : 0 ≤ (x7_2 : Int) := of_decide_eq_true (by first | (with_reducible assumption) | assumption)
                      have q101 : x7_2 < (l1.length : Int) := of_decide_eq_true (by first | (with_reducible assumption) | assumption)
                      obtain ⟨ad101, e101, hx101_0⟩ := Kd.at_int HR1.out x7_2 p101 q101
                      cases e101
                      replace hx101_0 := (HB.out.cell (World.block_lt_of_cell? w _ hx101_0)).trans hx101_0
                      replace p101 := eq_true p101
                      replace q101 := eq_true q101
                      have p102 : 0 ≤ (x7_2 : Int) := of_decide_eq_true (by first | (with_reducible assumption) | assumption)
                      have q102 : x7_2 < (l1.length : Int) := of_decide_eq_true (by first | (with_reducible assumption) | assumption)
                      obtain ⟨ad102, e102, hx102_0⟩ := Kd.at_int HR1.out x7_2 p102 q102
                      obtain rfl : ad101 = ad102 := (by injection e102)
                      replace hx102_0 := (HB.out.cell (World.block_lt_of_cell? w _ hx102_0)).trans hx102_0
                      replace p102 := eq_true p102
                      replace q102 := eq_true q102
                      go_wp2
                      repeat (go_quiet (fail); try go_wp2)
                      go_ret2
                      exact ⟨_, by first | rfl | (simp [errW_none, errW_some] <;> rfl) | (simp [*, errW_none, errW_some] <;> rfl), by first | exact Kd.R_nil _ _ _ _ _ | exact Kd.N_nil _ _ _ _ _ | exact Kd.V_nil _ _ _ _ _ | exact Kd.Q_nil _ _ _ _ _ | exact Kd.S_nil _ _ _ _ _, bw HB⟩
                    · rw [if_neg c10] at H
                      have c10b0 : decide (1073741824 < (rd l1 x7_2)) = false := decide_eq_false c10
                      clear c10
                      have H' := Aside0.mk H
                      clear H
                      have p101 : 0 ≤ (x7_2 : Int) := of_decide_eq_true (by first | (with_reducible assumption) | assumption)
                      have q101 : x7_2 < (l1.length : Int) := of_decide_eq_true (by first | (with_reducible assumption) | assumption)
                      obtain ⟨ad101, e101, hx101_0⟩ := Kd.at_int HR1.out x7_2 p101 q101
                      cases e101
                      replace hx101_0 := (HB.out.cell (World.block_lt_of_cell? w _ hx101_0)).trans hx101_0
                      replace p101 := eq_true p101
                      replace q101 := eq_true q101
                      have p102 : 0 ≤ (x7_2 : Int) := of_decide_eq_true (by first | (with_reducible assumption) | assumption)
                      have q102 : x7_2 < (l1.length : Int) := of_decide_eq_true (by first | (with_reducible assumption) | assumption)
                      obtain ⟨ad102, e102, hx102_0⟩ := Kd.at_int HR1.out x7_2 p102 q102
                      obtain rfl : ad101 = ad102 := (by injection e102)
                      replace hx102_0 := (HB.out.cell (World.block_lt_of_cell? w _ hx102_0)).trans hx102_0
                      replace p102 := eq_true p102
                      replace q102 := eq_true q102
                      have p103 : 0 ≤ (x7_2 : Int) := of_decide_eq_true (by first | (with_reducible assumption) | assumption)
                      have q103 : x7_2 < (l1.length : Int) := of_decide_eq_true (by first | (with_reducible assumption) | assumption)
                      obtain ⟨ad103, e103, hx103_0⟩ := Kd.at_int HR1.out x7_2 p103 q103
                      obtain rfl : ad101 = ad103 := (by injection e103)
                      replace hx103_0 := (HB.out.cell (World.block_lt_of_cell? w _ hx103_0)).trans hx103_0
                      replace p103 := eq_true p103
                      replace q103 := eq_true q103
                      go_wp2
                      repeat (go_quiet (fail); try go_wp2)
                      go_roundg k2
                      case measure => have := HJ3.out; have := HK2.out; omega
                      case rel => exact ⟨(wrap64 (x6_2 + (rd l1 x7_2))), (wrap64 (x7_2 + 1)), (by first | rfl | (simp; done) | (simp [*]; done)), (by first | rfl | (simp; done) | (simp [*]; done)), H', ⟨by have := HJ3.out; have := HK2.out; omega⟩, ⟨bw HB⟩⟩
                · rw [if_neg c8] at H
                  exact absurd H (by simp)
              · rw [if_neg c7] at H
                have c7b0 : decide (x7_2 < (l1.length : Int)) = false := decide_eq_false c7
                clear c7
                by_cases c11 : x6_2 = 0
                · rw [if_pos c11] at H
                  have c11b0 : (x6_2 == 0) = true := beq_iff_eq.mpr c11
                  have c11b1 : (x6_2 != 0) = false := bne_eq_false_iff_eq.mpr c11
                  clear c11
                  simp only [Option.some.injEq, Prod.mk.injEq] at H
                  obtain ⟨rfl, rfl⟩ := H
                  go_wp2
                  repeat (go_quiet (fail); try go_wp2)
                  go_ret2
                  exact ⟨_, by first | rfl | (simp [errW_none, errW_some] <;> rfl) | (simp [*, errW_none, errW_some] <;> rfl), by first | exact Kd.R_nil _ _ _ _ _ | exact Kd.N_nil _ _ _ _ _ | exact Kd.V_nil _ _ _ _ _ | exact Kd.Q_nil _ _ _ _ _ | exact Kd.S_nil _ _ _ _ _, bw HB⟩
                · rw [if_neg c11] at H
                  have c11b0 : (x6_2 == 0) = false := beq_eq_false_iff_ne.mpr c11
                  have c11b1 : (x6_2 != 0) = true := bne_iff_ne.mpr c11
                  by_cases c12 : 0 ≤ (l1.length : Int)
                  · rw [if_pos c12] at H
                    have c12b0 := eq_true c12
                    have c12b1 : decide (0 ≤ (l1.length : Int)) = true := decide_eq_true c12
                    clear c12
                    by_cases c13 : ((l1.length : Int) : Int).toNat ≤ 35184372088832
                    · rw [if_pos c13] at H
                      have c13b0 := eq_true c13
                      have c13b1 : decide (((l1.length : Int) : Int).toNat ≤ 35184372088832) = true := decide_eq_true c13
                      clear c13
                      obtain ⟨y104, hy104⟩ : ∃ y_ : List Int, y_ = (List.replicate ((l1.length : Int) : Int).toNat 0) := ⟨_, rfl⟩
                      replace H : (awardingbodyref01_Apportion.l1 k2 a0 l1 x6_2 y104 (List.replicate ((l1.length : Int) : Int).toNat 0) a0 0) = some (r1, r2) := by first | (rw [hy104]; with_reducible exact H) | (have H2_ := (Option.bind_some _ _).symm.trans H; rw [hy104]; with_reducible exact H2_) | (have H2_ := (Option.bind_some _ _).symm.trans H; with_reducible exact H2_) | with_reducible exact H | (rw [hy104]; exact H) | exact H
                      have Ny104 := Aside0.mk hy104
                      clear hy104
                      obtain ⟨y107, hy107⟩ : ∃ y_ : List Int, y_ = (List.replicate ((l1.length : Int) : Int).toNat 0) := ⟨_, rfl⟩
                      replace H : (awardingbodyref01_Apportion.l1 k2 a0 l1 x6_2 y104 y107 a0 0) = some (r1, r2) := by first | (rw [hy107]; with_reducible exact H) | (have H2_ := (Option.bind_some _ _).symm.trans H; rw [hy107]; with_reducible exact H2_) | (have H2_ := (Option.bind_some _ _).symm.trans H; with_reducible exact H2_) | with_reducible exact H | (rw [hy107]; exact H) | exact H
                      have Ny107 := Aside0.mk hy107
                      clear hy107
                      have H' := Aside0.mk H
                      clear H
                      go_wp2_with (first | ((with_reducible refine gate_dst (N := 51) rfl ?_); refine Kd.R_make (Kd.int .i64) _ 3 rfl (N := 51) rfl 22 _ _ rfl (l1.length : Int) rfl rfl Try.underlying22 (.int .i64 0) 8 info3 rfl (by decide) (by omega) 0 (ok := fun _ => True) (okp := fun _ => True) rfl (fun _ hk => hk) trivial (of_decide_eq_true (by first | (with_reducible assumption) | assumption)) (Nat.le_trans (Nat.mul_le_mul_right _ (of_decide_eq_true (by first | (with_reducible assumption) | assumption) : (l1.length : Int).toNat ≤ 35184372088832)) (by omega)) (Below.refl _ _) (Nat.le_refl _) ?_; intro v105 w14 ho15 hb hg_ hnew_; clear hg_ hnew_; (first | rw [← Ny104.out] at ho15 | (simp only [Int.reduceToNat] at ho15; rw [← Ny104.out] at ho15)); have HO106 := Aside0.mk (Kd.R_lower ho15 (below_size (bw HB))); replace HB := wb HB hb; clear hb ho15) | ((with_reducible refine gate_dst (N := 54) rfl ?_); refine Kd.R_make (Kd.int .i64) _ 3 rfl (N := 54) rfl 22 _ _ rfl (l1.length : Int) rfl rfl Try.underlying22 (.int .i64 0) 8 info3 rfl (by decide) (by omega) 0 (ok := fun _ => True) (okp := fun _ => True) rfl (fun _ hk => hk) trivial (of_decide_eq_true (by first | (with_reducible assumption) | assumption)) (Nat.le_trans (Nat.mul_le_mul_right _ (of_decide_eq_true (by first | (with_reducible assumption) | assumption) : (l1.length : Int).toNat ≤ 35184372088832)) (by omega)) (Below.refl _ _) (Nat.le_refl _) ?_; intro v108 w16 ho17 hb hg_ hnew_; clear hg_ hnew_; (first | rw [← Ny107.out] at ho17 | (simp only [Int.reduceToNat] at ho17; rw [← Ny107.out] at ho17)); have HO109 := Aside0.mk (Kd.R_lower (Kd.R_new' ho17 (Kd.R_lt (by (with_reducible repeat (first | apply Kd.R_alloc | apply Kd.R_drewN | apply Kd.R_drew)); exact HO106.out))) (below_size (bw HB))); replace HO106 := Aside0.mk (Kd.R_elder' (by (with_reducible repeat (first | apply Kd.R_alloc | apply Kd.R_drewN | apply Kd.R_drew)); exact HO106.out) (Kd.R_base ho17) hb); replace HB := wb HB hb; clear hb ho17))
                      repeat (go_quiet (first | ((with_reducible refine gate_dst (N := 51) rfl ?_); refine Kd.R_make (Kd.int .i64) _ 3 rfl (N := 51) rfl 22 _ _ rfl (l1.length : Int) rfl rfl Try.underlying22 (.int .i64 0) 8 info3 rfl (by decide) (by omega) 0 (ok := fun _ => True) (okp := fun _ => True) rfl (fun _ hk => hk) trivial (of_decide_eq_true (by first | (with_reducible assumption) | assumption)) (Nat.le_trans (Nat.mul_le_mul_right _ (of_decide_eq_true (by first | (with_reducible assumption) | assumption) : (l1.length : Int).toNat ≤ 35184372088832)) (by omega)) (Below.refl _ _) (Nat.le_refl _) ?_; intro v105 w14 ho15 hb hg_ hnew_; clear hg_ hnew_; (first | rw [← Ny104.out] at ho15 | (simp only [Int.reduceToNat] at ho15; rw [← Ny104.out] at ho15)); have HO106 := Aside0.mk (Kd.R_lower ho15 (below_size (bw HB))); replace HB := wb HB hb; clear hb ho15) | ((with_reducible refine gate_dst (N := 54) rfl ?_); refine Kd.R_make (Kd.int .i64) _ 3 rfl (N := 54) rfl 22 _ _ rfl (l1.length : Int) rfl rfl Try.underlying22 (.int .i64 0) 8 info3 rfl (by decide) (by omega) 0 (ok := fun _ => True) (okp := fun _ => True) rfl (fun _ hk => hk) trivial (of_decide_eq_true (by first | (with_reducible assumption) | assumption)) (Nat.le_trans (Nat.mul_le_mul_right _ (of_decide_eq_true (by first | (with_reducible assumption) | assumption) : (l1.length : Int).toNat ≤ 35184372088832)) (by omega)) (Below.refl _ _) (Nat.le_refl _) ?_; intro v108 w16 ho17 hb hg_ hnew_; clear hg_ hnew_; (first | rw [← Ny107.out] at ho17 | (simp only [Int.reduceToNat] at ho17; rw [← Ny107.out] at ho17)); have HO109 := Aside0.mk (Kd.R_lower (Kd.R_new' ho17 (Kd.R_lt (by (with_reducible repeat (first | apply Kd.R_alloc | apply Kd.R_drewN | apply Kd.R_drew)); exact HO106.out))) (below_size (bw HB))); replace HO106 := Aside0.mk (Kd.R_elder' (by (with_reducible repeat (first | apply Kd.R_alloc | apply Kd.R_drewN | apply Kd.R_drew)); exact HO106.out) (Kd.R_base ho17) hb); replace HB := wb HB hb; clear hb ho17)); try go_wp2_with (first | ((with_reducible refine gate_dst (N := 51) rfl ?_); refine Kd.R_make (Kd.int .i64) _ 3 rfl (N := 51) rfl 22 _ _ rfl (l1.length : Int) rfl rfl Try.underlying22 (.int .i64 0) 8 info3 rfl (by decide) (by omega) 0 (ok := fun _ => True) (okp := fun _ => True) rfl (fun _ hk => hk) trivial (of_decide_eq_true (by first | (with_reducible assumption) | assumption)) (Nat.le_trans (Nat.mul_le_mul_right _ (of_decide_eq_true (by first | (with_reducible assumption) | assumption) : (l1.length : Int).toNat ≤ 35184372088832)) (by omega)) (Below.refl _ _) (Nat.le_refl _) ?_; intro v105 w14 ho15 hb hg_ hnew_; clear hg_ hnew_; (first | rw [← Ny104.out] at ho15 | (simp only [Int.reduceToNat] at ho15; rw [← Ny104.out] at ho15)); have HO106 := Aside0.mk (Kd.R_lower ho15 (below_size (bw HB))); replace HB := wb HB hb; clear hb ho15) | ((with_reducible refine gate_dst (N := 54) rfl ?_); refine Kd.R_make (Kd.int .i64) _ 3 rfl (N := 54) rfl 22 _ _ rfl (l1.length : Int) rfl rfl Try.underlying22 (.int .i64 0) 8 info3 rfl (by decide) (by omega) 0 (ok := fun _ => True) (okp := fun _ => True) rfl (fun _ hk => hk) trivial (of_decide_eq_true (by first | (with_reducible assumption) | assumption)) (Nat.le_trans (Nat.mul_le_mul_right _ (of_decide_eq_true (by first | (with_reducible assumption) | assumption) : (l1.length : Int).toNat ≤ 35184372088832)) (by omega)) (Below.refl _ _) (Nat.le_refl _) ?_; intro v108 w16 ho17 hb hg_ hnew_; clear hg_ hnew_; (first | rw [← Ny107.out] at ho17 | (simp only [Int.reduceToNat] at ho17; rw [← Ny107.out] at ho17)); have HO109 := Aside0.mk (Kd.R_lower (Kd.R_new' ho17 (Kd.R_lt (by (with_reducible repeat (first | apply Kd.R_alloc | apply Kd.R_drewN | apply Kd.R_drew)); exact HO106.out))) (below_size (bw HB))); replace HO106 := Aside0.mk (Kd.R_elder' (by (with_reducible repeat (first | apply Kd.R_alloc | apply Kd.R_drewN | apply Kd.R_drew)); exact HO106.out) (Kd.R_base ho17) hb); replace HB := wb HB hb; clear hb ho17)))
                      (try simp only [Act.put, List.setIfInBounds_toArray, List.set_cons_zero, List.set_cons_succ])
                      go_loopg [10, 11] k2 (fun kq v10 v11 w' => ∃ (x8_3 : List Int) (x9_3 : List Int) (x10_3 : Int) (x11_3 : Int), v10 = .int .i64 x10_3 ∧ v11 = .int .i64 x11_3 ∧ Aside0 (awardingbodyref01_Apportion.l1 kq a0 l1 x6_2 x8_3 x9_3 x10_3 x11_3 = some (r1, r2)) ∧ Aside0 (kq ≤ k2) ∧ Aside0 (Kd.R (Kd.int .i64) 3 w' w.heap.size (fun k_ => some k_ ≠ (v108 : Value).ownBlock) v105 x8_3) ∧ Aside0 (Kd.R (Kd.int .i64) 3 w' w.heap.size (fun k_ => some k_ ≠ (v105 : Value).ownBlock) v108 x9_3) ∧ Aside0 (Below w.heap.size w w'))
                      case atStart => exact ⟨(y104), (y107), (a0), (0), (by first | rfl | (simp; done) | (simp [*]; done)), (by first | rfl | (simp; done) | (simp [*]; done)), H', ⟨Nat.le_refl _⟩, ⟨by (with_reducible repeat (first | apply Kd.R_alloc | apply Kd.R_drewN | apply Kd.R_drew)); exact Kd.R_mono HO106.out (fun _ hk => hk.2)⟩, ⟨by (with_reducible repeat (first | apply Kd.R_alloc | apply Kd.R_drewN | apply Kd.R_drew)); exact Kd.R_mono HO109.out (fun _ hk => hk.2)⟩, ⟨bw HB⟩⟩
                      case round =>
                        clear H'
                        try clear c1
                        try clear p1
                        try clear q1
                        try clear hx1
                        try clear p2
                        try clear c3
                        try clear c3b0
                        try clear c3b1
                        try clear c5
                        try clear c5b0
                        try clear c6
                        try clear p6
                        try clear c7
                        try clear c7b0
                        try clear c8
                        try clear c8b0
                        try clear c9
                        try clear c9b0
                        try clear c10
                        try clear c10b0
                        try clear p10
                        try clear q10
                        try clear hx10
                        try clear c11
                        try clear c11b0
                        try clear c11b1
                        try clear c12
                        try clear c12b0
                        try clear c12b1
                        try clear c13
                        try clear c13b0
                        try clear c13b1
                        try clear c16
                        try clear hx101_0
                        try clear hx102_0
                        try clear hx103_0
                        try clear p101
                        try clear p102
                        try clear p103
                        try clear p2
                        try clear q101
                        try clear q102
                        try clear q103
                        obtain ⟨x8_3, x9_3, x10_3, x11_3, rfl, rfl, HA, HK3, HO_8, HO_9, HB⟩ := hrel
                        cases gk with
                        | zero => exact absurd HA.out (by simp [awardingbodyref01_Apportion.l1])
                        | succ k3 =>
                          have H := HA.out
                          clear HA
                          simp only [awardingbodyref01_Apportion.l1] at H
                          by_cases c18 : x11_3 < (l1.length : Int)
                          · rw [if_pos c18] at H
                            have c18b0 : decide (x11_3 < (l1.length : Int)) = true := decide_eq_true c18
                            clear c18
                            by_cases c19 : 0 ≤ x11_3
                            · rw [if_pos c19] at H
                              have c19b0 : decide (0 ≤ x11_3) = true := decide_eq_true c19
                              clear c19
                              by_cases c20 : x6_2 = 0
                              · rw [if_pos c20] at H
                                exact absurd H (by simp)
                              · rw [if_neg c20] at H
                                have c20b0 : (x6_2 == 0) = false := beq_eq_false_iff_ne.mpr c20
                                have c20b1 : (x6_2 != 0) = true := bne_iff_ne.mpr c20
                                by_cases c21 : x11_3 < (x8_3.length : Int)
                                · rw [if_pos c21] at H
                                  have c21b0 : decide (x11_3 < (x8_3.length : Int)) = true := decide_eq_true c21
                                  clear c21
                                  obtain ⟨y111, hy111⟩ : ∃ y_ : List Int, y_ = (x8_3.set (x11_3 : Int).toNat (wrap64 (Int.tdiv (wrap64 (a0 * (rd l1 x11_3))) x6_2))) := ⟨_, rfl⟩
                                  replace H : (if x11_3 < (x9_3.length : Int) then (awardingbodyref01_Apportion.l1 k3 a0 l1 x6_2 y111 (x9_3.set (x11_3 : Int).toNat (Int.tmod (wrap64 (a0 * (rd l1 x11_3))) x6_2)) (wrap64 (x10_3 - (rd y111 x11_3))) (wrap64 (x11_3 + 1))) else (none)) = some (r1, r2) := by first | (rw [hy111]; with_reducible exact H) | (have H2_ := (Option.bind_some _ _).symm.trans H; rw [hy111]; with_reducible exact H2_) | (have H2_ := (Option.bind_some _ _).symm.trans H; with_reducible exact H2_) | with_reducible exact H | (rw [hy111]; exact H) | exact H
                                  have Ny111 := Aside0.mk hy111
                                  clear hy111
                                  by_cases c23 : x11_3 < (x9_3.length : Int)
                                  · rw [if_pos c23] at H
                                    have c23b0 : decide (x11_3 < (x9_3.length : Int)) = true := decide_eq_true c23
                                    clear c23
                                    obtain ⟨y113, hy113⟩ : ∃ y_ : List Int, y_ = (x9_3.set (x11_3 : Int).toNat (Int.tmod (wrap64 (a0 * (rd l1 x11_3))) x6_2)) := ⟨_, rfl⟩
                                    replace H : (awardingbodyref01_Apportion.l1 k3 a0 l1 x6_2 y111 y113 (wrap64 (x10_3 - (rd y111 x11_3))) (wrap64 (x11_3 + 1))) = some (r1, r2) := by first | (rw [hy113]; with_reducible exact H) | (have H2_ := (Option.bind_some _ _).symm.trans H; rw [hy113]; with_reducible exact H2_) | (have H2_ := (Option.bind_some _ _).symm.trans H; with_reducible exact H2_) | with_reducible exact H | (rw [hy113]; exact H) | exact H
                                    have Ny113 := Aside0.mk hy113
                                    clear hy113
                                    have H' := Aside0.mk H
                                    clear H
                                    have p110 : 0 ≤ (x11_3 : Int) := of_decide_eq_true (by first | (with_reducible assumption) | assumption)
                                    have q110 : x11_3 < (l1.length : Int) := of_decide_eq_true (by first | (with_reducible assumption) | assumption)
                                    obtain ⟨ad110, e110, hx110_0⟩ := Kd.at_int HR1.out x11_3 p110 q110
                                    cases e110
                                    replace hx110_0 := (HB.out.cell (World.block_lt_of_cell? w _ hx110_0)).trans hx110_0
                                    replace p110 := eq_true p110
                                    replace q110 := eq_true q110
                                    have p22 : 0 ≤ (x11_3 : Int) := of_decide_eq_true (by first | (with_reducible assumption) | assumption)
                                    have q22 : (x11_3 : Int) < ((x8_3.length : Int) : Int) := of_decide_eq_true (by first | (with_reducible assumption) | assumption)
                                    obtain ⟨go22, co22, eo22, gb22, gl22, cl22, HG22⟩ := Kd.R_form HO_8.out (by omega)
                                    (first | cases eo22 | (injection eo22 with ea_ en_ ec_; (first | subst ea_ | (injection ea_ with ea_; subst ea_)); subst ec_; clear en_))
                                    have GB22 := Aside0.mk gb22
                                    have GG22 := Aside0.mk HG22
                                    clear gb22 gl22 HG22
                                    obtain ⟨hx22_0, hf22_0⟩ := Kd.R_celln 0 HO_8.out (x11_3 : Int) p22 q22
                                    replace p22 := eq_true p22
                                    replace q22 := eq_true q22
                                    have HP25 := Kd.R_putg HO_8.out (x11_3 : Int) (wrap64 (Int.tdiv (wrap64 (a0 * (rd l1 x11_3))) x6_2))
                                    go_wp2_with (first | ((with_reducible refine gate_store (t := 3) (p := 72) rfl ?_); (try (rw [drewN_self wr]; generalize hq_ : World.drewN wr _ = wr; replace HO_8 := Aside0.mk (Kd.R_at hq_ HO_8.out); replace HO_9 := Aside0.mk (Kd.R_at hq_ HO_9.out); replace HB := Aside0.mk (below_at hq_ HB.out); clear hq_; (try (have HP25 := Kd.R_putg HO_8.out (x11_3 : Int) (wrap64 (Int.tdiv (wrap64 (a0 * (rd l1 x11_3))) x6_2)))))); refine store_event (t := 3) (p := 72) (v := ?vo_w26) (w1 := (wr.setCell ⟨go22, (x11_3 : Int).toNat, none⟩ (.int .i64 (wrap64 (Int.tdiv (wrap64 (a0 * (rd l1 x11_3))) x6_2))))) ?hg ?ho ?hn ?hr ?_; (case ho => rfl); (case hg => rfl); (case hn => rfl); (case hr => first | (go_simp; done) | (go_simp; rfl)); intro w26 hw; have hg : wr.grownBy w26 (some go22) := (by rw [hw]; exact HP25.2); have hp_ : Kd.R (Kd.int .i64) 3 w26 w.heap.size (fun k_ => some k_ ≠ (v108 : Value).ownBlock) (.slice (some ⟨go22, 0, none⟩) x8_3.length co22) y111 := (by rw [hw, Ny111.out]; exact HP25.1); clear HP25; replace HO_8 := Aside0.mk (hp_); replace HO_9 := Aside0.mk (Kd.R_after (v := (.slice (some ⟨go22, 0, none⟩) x8_3.length co22)) (v1 := (.slice (some ⟨go22, 0, none⟩) x8_3.length co22)) (ok := (fun _ => True)) (by (with_reducible repeat (first | apply Kd.R_alloc | apply Kd.R_drewN | apply Kd.R_drew)); exact Kd.R_mono HO_9.out (fun _ hk => ⟨trivial, hk⟩)) hg (.inl rfl)); replace HB := Aside0.mk ((by rw [hw]; exact below_set (HB.out) GB22.out : Below w.heap.size w w26)); clear hg hw hp_; have p112 : 0 ≤ (x11_3 : Int) := of_decide_eq_true (by first | (with_reducible assumption) | assumption); have q112 : x11_3 < (l1.length : Int) := of_decide_eq_true (by first | (with_reducible assumption) | assumption); obtain ⟨ad112, e112, hx112_0⟩ := Kd.at_int HR1.out x11_3 p112 q112; obtain rfl : ad110 = ad112 := (by injection e112); replace hx112_0 := (HB.out.cell (World.block_lt_of_cell? w _ hx112_0)).trans hx112_0; replace p112 := eq_true p112; replace q112 := eq_true q112; have p24 : 0 ≤ (x11_3 : Int) := of_decide_eq_true (by first | (with_reducible assumption) | assumption); have q24 : (x11_3 : Int) < ((x9_3.length : Int) : Int) := of_decide_eq_true (by first | (with_reducible assumption) | assumption); obtain ⟨go24, co24, eo24, gb24, gl24, cl24, HG24⟩ := Kd.R_form HO_9.out (by omega); (first | cases eo24 | (injection eo24 with ea_ en_ ec_; (first | subst ea_ | (injection ea_ with ea_; subst ea_)); subst ec_; clear en_)); have GB24 := Aside0.mk gb24; have GG24 := Aside0.mk HG24; clear gb24 gl24 HG24; obtain ⟨hx24_0, hf24_0⟩ := Kd.R_celln 0 HO_9.out (x11_3 : Int) p24 q24; replace p24 := eq_true p24; replace q24 := eq_true q24; have n_ := Aside0.mk (Kd.R_mono (ok' := (fun k_ => some k_ ≠ (.slice (some ⟨go22, 0, none⟩) x8_3.length co22 : Value).ownBlock)) HO_9.out (fun k_ hk => hk.2)); clear HO_9; have HO_9 := n_; clear n_; obtain ⟨hy27_, hz27_⟩ := Kd.R_celln 0 HO_9.out (x11_3 : Int) (of_decide_eq_true (by first | (with_reducible assumption) | assumption)) (of_decide_eq_true (by first | (with_reducible assumption) | assumption)); have HP27 := Kd.R_putg HO_9.out (x11_3 : Int) (Int.tmod (wrap64 (a0 * (rd l1 x11_3))) x6_2)) | ((with_reducible refine gate_store (t := 3) (p := 83) rfl ?_); (try (rw [drewN_self w26]; generalize hq_ : World.drewN w26 _ = w26; replace HO_8 := Aside0.mk (Kd.R_at hq_ HO_8.out); replace HO_9 := Aside0.mk (Kd.R_at hq_ HO_9.out); replace HB := Aside0.mk (below_at hq_ HB.out); clear hq_; (try (have n_ := Aside0.mk (Kd.R_mono (ok' := (fun k_ => some k_ ≠ (.slice (some ⟨go22, 0, none⟩) x8_3.length co22 : Value).ownBlock)) HO_9.out (fun k_ hk => hk.2)); clear HO_9; have HO_9 := n_; clear n_)); (try (obtain ⟨hy27_, hz27_⟩ := Kd.R_celln 0 HO_9.out (x11_3 : Int) (of_decide_eq_true (by first | (with_reducible assumption) | assumption)) (of_decide_eq_true (by first | (with_reducible assumption) | assumption)))); (try (have HP27 := Kd.R_putg HO_9.out (x11_3 : Int) (Int.tmod (wrap64 (a0 * (rd l1 x11_3))) x6_2))))); refine store_event (t := 3) (p := 83) (v := ?vo_w28) (w1 := (w26.setCell ⟨go24, (x11_3 : Int).toNat, none⟩ (.int .i64 (Int.tmod (wrap64 (a0 * (rd l1 x11_3))) x6_2)))) ?hg ?ho ?hn ?hr ?_; (case ho => rfl); (case hg => rfl); (case hn => rfl); (case hr => first | (go_simp; done) | (go_simp; rfl)); intro w28 hw; have hg : w26.grownBy w28 (some go24) := (by rw [hw]; exact HP27.2); have hp_ : Kd.R (Kd.int .i64) 3 w28 w.heap.size (fun k_ => some k_ ≠ (.slice (some ⟨go22, 0, none⟩) x8_3.length co22 : Value).ownBlock) (.slice (some ⟨go24, 0, none⟩) x9_3.length co24) y113 := (by rw [hw, Ny113.out]; exact HP27.1); clear HP27; replace HO_8 := Aside0.mk (Kd.R_after (v := (.slice (some ⟨go24, 0, none⟩) x9_3.length co24)) (v1 := (.slice (some ⟨go24, 0, none⟩) x9_3.length co24)) (ok := (fun _ => True)) (by (with_reducible repeat (first | apply Kd.R_alloc | apply Kd.R_drewN | apply Kd.R_drew)); exact Kd.R_mono HO_8.out (fun _ hk => ⟨trivial, hk⟩)) hg (.inl rfl)); replace HO_9 := Aside0.mk (hp_); replace HB := Aside0.mk ((by rw [hw]; exact below_set (HB.out) GB24.out : Below w.heap.size w w28)); clear hg hw hp_; have p114 : 0 ≤ (x11_3 : Int) := of_decide_eq_true (by first | (with_reducible assumption) | assumption); have q114 : x11_3 < (y111.length : Int) := (by have h_ : (x11_3 : Int) < ((x8_3.length : Int) : Int) := of_decide_eq_true (by first | (with_reducible assumption) | assumption); first | (have e_ := (Kd.R_reads' HO_8.out).1; omega) | simpa only [Ny111.out, List.length_set] using h_); have ql114 : ((x11_3 : Int) < ((x8_3.length : Int) : Int)) = True := eq_true (of_decide_eq_true (by first | (with_reducible assumption) | assumption)); obtain ⟨ad114, e114, hx114_0⟩ := Kd.at_int (Kd.R_reads' HO_8.out).2.2 x11_3 p114 q114; obtain rfl : (⟨go22, 0, none⟩ : Addr) = ad114 := (by injection e114); (first | simp only [add_plain] at hx114_0 | simp only [add_at] at hx114_0 | simp only [Addr.add, Nat.zero_add] at hx114_0 | skip); replace p114 := eq_true p114; replace q114 := eq_true q114))
                                    repeat (go_quiet (first | ((with_reducible refine gate_store (t := 3) (p := 72) rfl ?_); (try (rw [drewN_self wr]; generalize hq_ : World.drewN wr _ = wr; replace HO_8 := Aside0.mk (Kd.R_at hq_ HO_8.out); replace HO_9 := Aside0.mk (Kd.R_at hq_ HO_9.out); replace HB := Aside0.mk (below_at hq_ HB.out); clear hq_; (try (have HP25 := Kd.R_putg HO_8.out (x11_3 : Int) (wrap64 (Int.tdiv (wrap64 (a0 * (rd l1 x11_3))) x6_2)))))); refine store_event (t := 3) (p := 72) (v := ?vo_w26) (w1 := (wr.setCell ⟨go22, (x11_3 : Int).toNat, none⟩ (.int .i64 (wrap64 (Int.tdiv (wrap64 (a0 * (rd l1 x11_3))) x6_2))))) ?hg ?ho ?hn ?hr ?_; (case ho => rfl); (case hg => rfl); (case hn => rfl); (case hr => first | (go_simp; done) | (go_simp; rfl)); intro w26 hw; have hg : wr.grownBy w26 (some go22) := (by rw [hw]; exact HP25.2); have hp_ : Kd.R (Kd.int .i64) 3 w26 w.heap.size (fun k_ => some k_ ≠ (v108 : Value).ownBlock) (.slice (some ⟨go22, 0, none⟩) x8_3.length co22) y111 := (by rw [hw, Ny111.out]; exact HP25.1); clear HP25; replace HO_8 := Aside0.mk (hp_); replace HO_9 := Aside0.mk (Kd.R_after (v := (.slice (some ⟨go22, 0, none⟩) x8_3.length co22)) (v1 := (.slice (some ⟨go22, 0, none⟩) x8_3.length co22)) (ok := (fun _ => True)) (by (with_reducible repeat (first | apply Kd.R_alloc | apply Kd.R_drewN | apply Kd.R_drew)); exact Kd.R_mono HO_9.out (fun _ hk => ⟨trivial, hk⟩)) hg (.inl rfl)); replace HB := Aside0.mk ((by rw [hw]; exact below_set (HB.out) GB22.out : Below w.heap.size w w26)); clear hg hw hp_; have p112 : 0 ≤ (x11_3 : Int) := of_decide_eq_true (by first | (with_reducible assumption) | assumption); have q112 : x11_3 < (l1.length : Int) := of_decide_eq_true (by first | (with_reducible assumption) | assumption); obtain ⟨ad112, e112, hx112_0⟩ := Kd.at_int HR1.out x11_3 p112 q112; obtain rfl : ad110 = ad112 := (by injection e112); replace hx112_0 := (HB.out.cell (World.block_lt_of_cell? w _ hx112_0)).trans hx112_0; replace p112 := eq_true p112; replace q112 := eq_true q112; have p24 : 0 ≤ (x11_3 : Int) := of_decide_eq_true (by first | (with_reducible assumption) | assumption); have q24 : (x11_3 : Int) < ((x9_3.length : Int) : Int) := of_decide_eq_true (by first | (with_reducible assumption) | assumption); obtain ⟨go24, co24, eo24, gb24, gl24, cl24, HG24⟩ := Kd.R_form HO_9.out (by omega); (first | cases eo24 | (injection eo24 with ea_ en_ ec_; (first | subst ea_ | (injection ea_ with ea_; subst ea_)); subst ec_; clear en_)); have GB24 := Aside0.mk gb24; have GG24 := Aside0.mk HG24; clear gb24 gl24 HG24; obtain ⟨hx24_0, hf24_0⟩ := Kd.R_celln 0 HO_9.out (x11_3 : Int) p24 q24; replace p24 := eq_true p24; replace q24 := eq_true q24; have n_ := Aside0.mk (Kd.R_mono (ok' := (fun k_ => some k_ ≠ (.slice (some ⟨go22, 0, none⟩) x8_3.length co22 : Value).ownBlock)) HO_9.out (fun k_ hk => hk.2)); clear HO_9; have HO_9 := n_; clear n_; obtain ⟨hy27_, hz27_⟩ := Kd.R_celln 0 HO_9.out (x11_3 : Int) (of_decide_eq_true (by first | (with_reducible assumption) | assumption)) (of_decide_eq_true (by first | (with_reducible assumption) | assumption)); have HP27 := Kd.R_putg HO_9.out (x11_3 : Int) (Int.tmod (wrap64 (a0 * (rd l1 x11_3))) x6_2)) | ((with_reducible refine gate_store (t := 3) (p := 83) rfl ?_); (try (rw [drewN_self w26]; generalize hq_ : World.drewN w26 _ = w26; replace HO_8 := Aside0.mk (Kd.R_at hq_ HO_8.out); replace HO_9 := Aside0.mk (Kd.R_at hq_ HO_9.out); replace HB := Aside0.mk (below_at hq_ HB.out); clear hq_; (try (have n_ := Aside0.mk (Kd.R_mono (ok' := (fun k_ => some k_ ≠ (.slice (some ⟨go22, 0, none⟩) x8_3.length co22 : Value).ownBlock)) HO_9.out (fun k_ hk => hk.2)); clear HO_9; have HO_9 := n_; clear n_)); (try (obtain ⟨hy27_, hz27_⟩ := Kd.R_celln 0 HO_9.out (x11_3 : Int) (of_decide_eq_true (by first | (with_reducible assumption) | assumption)) (of_decide_eq_true (by first | (with_reducible assumption) | assumption)))); (try (have HP27 := Kd.R_putg HO_9.out (x11_3 : Int) (Int.tmod (wrap64 (a0 * (rd l1 x11_3))) x6_2))))); refine store_event (t := 3) (p := 83) (v := ?vo_w28) (w1 := (w26.setCell ⟨go24, (x11_3 : Int).toNat, none⟩ (.int .i64 (Int.tmod (wrap64 (a0 * (rd l1 x11_3))) x6_2)))) ?hg ?ho ?hn ?hr ?_; (case ho => rfl); (case hg => rfl); (case hn => rfl); (case hr => first | (go_simp; done) | (go_simp; rfl)); intro w28 hw; have hg : w26.grownBy w28 (some go24) := (by rw [hw]; exact HP27.2); have hp_ : Kd.R (Kd.int .i64) 3 w28 w.heap.size (fun k_ => some k_ ≠ (.slice (some ⟨go22, 0, none⟩) x8_3.length co22 : Value).ownBlock) (.slice (some ⟨go24, 0, none⟩) x9_3.length co24) y113 := (by rw [hw, Ny113.out]; exact HP27.1); clear HP27; replace HO_8 := Aside0.mk (Kd.R_after (v := (.slice (some ⟨go24, 0, none⟩) x9_3.length co24)) (v1 := (.slice (some ⟨go24, 0, none⟩) x9_3.length co24)) (ok := (fun _ => True)) (by (with_reducible repeat (first | apply Kd.R_alloc | apply Kd.R_drewN | apply Kd.R_drew)); exact Kd.R_mono HO_8.out (fun _ hk => ⟨trivial, hk⟩)) hg (.inl rfl)); replace HO_9 := Aside0.mk (hp_); replace HB := Aside0.mk ((by rw [hw]; exact below_set (HB.out) GB24.out : Below w.heap.size w w28)); clear hg hw hp_; have p114 : 0 ≤ (x11_3 : Int) := of_decide_eq_true (by first | (with_reducible assumption) | assumption); have q114 : x11_3 < (y111.length : Int) := (by have h_ : (x11_3 : Int) < ((x8_3.length : Int) : Int) := of_decide_eq_true (by first | (with_reducible assumption) | assumption); first | (have e_ := (Kd.R_reads' HO_8.out).1; omega) | simpa only [Ny111.out, List.length_set] using h_); have ql114 : ((x11_3 : Int) < ((x8_3.length : Int) : Int)) = True := eq_true (of_decide_eq_true (by first | (with_reducible assumption) | assumption)); obtain ⟨ad114, e114, hx114_0⟩ := Kd.at_int (Kd.R_reads' HO_8.out).2.2 x11_3 p114 q114; obtain rfl : (⟨go22, 0, none⟩ : Addr) = ad114 := (by injection e114); (first | simp only [add_plain] at hx114_0 | simp only [add_at] at hx114_0 | simp only [Addr.add, Nat.zero_add] at hx114_0 | skip); replace p114 := eq_true p114; replace q114 := eq_true q114)); try go_wp2_with (first | ((with_reducible refine gate_store (t := 3) (p := 72) rfl ?_); (try (rw [drewN_self wr]; generalize hq_ : World.drewN wr _ = wr; replace HO_8 := Aside0.mk (Kd.R_at hq_ HO_8.out); replace HO_9 := Aside0.mk (Kd.R_at hq_ HO_9.out); replace HB := Aside0.mk (below_at hq_ HB.out); clear hq_; (try (have HP25 := Kd.R_putg HO_8.out (x11_3 : Int) (wrap64 (Int.tdiv (wrap64 (a0 * (rd l1 x11_3))) x6_2)))))); refine store_event (t := 3) (p := 72) (v := ?vo_w26) (w1 := (wr.setCell ⟨go22, (x11_3 : Int).toNat, none⟩ (.int .i64 (wrap64 (Int.tdiv (wrap64 (a0 * (rd l1 x11_3))) x6_2))))) ?hg ?ho ?hn ?hr ?_; (case ho => rfl); (case hg => rfl); (case hn => rfl); (case hr => first | (go_simp; done) | (go_simp; rfl)); intro w26 hw; have hg : wr.grownBy w26 (some go22) := (by rw [hw]; exact HP25.2); have hp_ : Kd.R (Kd.int .i64) 3 w26 w.heap.size (fun k_ => some k_ ≠ (v108 : Value).ownBlock) (.slice (some ⟨go22, 0, none⟩) x8_3.length co22) y111 := (by rw [hw, Ny111.out]; exact HP25.1); clear HP25; replace HO_8 := Aside0.mk (hp_); replace HO_9 := Aside0.mk (Kd.R_after (v := (.slice (some ⟨go22, 0, none⟩) x8_3.length co22)) (v1 := (.slice (some ⟨go22, 0, none⟩) x8_3.length co22)) (ok := (fun _ => True)) (by (with_reducible repeat (first | apply Kd.R_alloc | apply Kd.R_drewN | apply Kd.R_drew)); exact Kd.R_mono HO_9.out (fun _ hk => ⟨trivial, hk⟩)) hg (.inl rfl)); replace HB := Aside0.mk ((by rw [hw]; exact below_set (HB.out) GB22.out : Below w.heap.size w w26)); clear hg hw hp_; have p112 : 0 ≤ (x11_3 : Int) := of_decide_eq_true (by first | (with_reducible assumption) | assumption); have q112 : x11_3 < (l1.length : Int) := of_decide_eq_true (by first | (with_reducible assumption) | assumption); obtain ⟨ad112, e112, hx112_0⟩ := Kd.at_int HR1.out x11_3 p112 q112; obtain rfl : ad110 = ad112 := (by injection e112); replace hx112_0 := (HB.out.cell (World.block_lt_of_cell? w _ hx112_0)).trans hx112_0; replace p112 := eq_true p112; replace q112 := eq_true q112; have p24 : 0 ≤ (x11_3 : Int) := of_decide_eq_true (by first | (with_reducible assumption) | assumption); have q24 : (x11_3 : Int) < ((x9_3.length : Int) : Int) := of_decide_eq_true (by first | (with_reducible assumption) | assumption); obtain ⟨go24, co24, eo24, gb24, gl24, cl24, HG24⟩ := Kd.R_form HO_9.out (by omega); (first | cases eo24 | (injection eo24 with ea_ en_ ec_; (first | subst ea_ | (injection ea_ with ea_; subst ea_)); subst ec_; clear en_)); have GB24 := Aside0.mk gb24; have GG24 := Aside0.mk HG24; clear gb24 gl24 HG24; obtain ⟨hx24_0, hf24_0⟩ := Kd.R_celln 0 HO_9.out (x11_3 : Int) p24 q24; replace p24 := eq_true p24; replace q24 := eq_true q24; have n_ := Aside0.mk (Kd.R_mono (ok' := (fun k_ => some k_ ≠ (.slice (some ⟨go22, 0, none⟩) x8_3.length co22 : Value).ownBlock)) HO_9.out (fun k_ hk => hk.2)); clear HO_9; have HO_9 := n_; clear n_; obtain ⟨hy27_, hz27_⟩ := Kd.R_celln 0 HO_9.out (x11_3 : Int) (of_decide_eq_true (by first | (with_reducible assumption) | assumption)) (of_decide_eq_true (by first | (with_reducible assumption) | assumption)); have HP27 := Kd.R_putg HO_9.out (x11_3 : Int) (Int.tmod (wrap64 (a0 * (rd l1 x11_3))) x6_2)) | ((with_reducible refine gate_store (t := 3) (p := 83) rfl ?_); (try (rw [drewN_self w26]; generalize hq_ : World.drewN w26 _ = w26; replace HO_8 := Aside0.mk (Kd.R_at hq_ HO_8.out); replace HO_9 := Aside0.mk (Kd.R_at hq_ HO_9.out); replace HB := Aside0.mk (below_at hq_ HB.out); clear hq_; (try (have n_ := Aside0.mk (Kd.R_mono (ok' := (fun k_ => some k_ ≠ (.slice (some ⟨go22, 0, none⟩) x8_3.length co22 : Value).ownBlock)) HO_9.out (fun k_ hk => hk.2)); clear HO_9; have HO_9 := n_; clear n_)); (try (obtain ⟨hy27_, hz27_⟩ := Kd.R_celln 0 HO_9.out (x11_3 : Int) (of_decide_eq_true (by first | (with_reducible assumption) | assumption)) (of_decide_eq_true (by first | (with_reducible assumption) | assumption)))); (try (have HP27 := Kd.R_putg HO_9.out (x11_3 : Int) (Int.tmod (wrap64 (a0 * (rd l1 x11_3))) x6_2))))); refine store_event (t := 3) (p := 83) (v := ?vo_w28) (w1 := (w26.setCell ⟨go24, (x11_3 : Int).toNat, none⟩ (.int .i64 (Int.tmod (wrap64 (a0 * (rd l1 x11_3))) x6_2)))) ?hg ?ho ?hn ?hr ?_; (case ho => rfl); (case hg => rfl); (case hn => rfl); (case hr => first | (go_simp; done) | (go_simp; rfl)); intro w28 hw; have hg : w26.grownBy w28 (some go24) := (by rw [hw]; exact HP27.2); have hp_ : Kd.R (Kd.int .i64) 3 w28 w.heap.size (fun k_ => some k_ ≠ (.slice (some ⟨go22, 0, none⟩) x8_3.length co22 : Value).ownBlock) (.slice (some ⟨go24, 0, none⟩) x9_3.length co24) y113 := (by rw [hw, Ny113.out]; exact HP27.1); clear HP27; replace HO_8 := Aside0.mk (Kd.R_after (v := (.slice (some ⟨go24, 0, none⟩) x9_3.length co24)) (v1 := (.slice (some ⟨go24, 0, none⟩) x9_3.length co24)) (ok := (fun _ => True)) (by (with_reducible repeat (first | apply Kd.R_alloc | apply Kd.R_drewN | apply Kd.R_drew)); exact Kd.R_mono HO_8.out (fun _ hk => ⟨trivial, hk⟩)) hg (.inl rfl)); replace HO_9 := Aside0.mk (hp_); replace HB := Aside0.mk ((by rw [hw]; exact below_set (HB.out) GB24.out : Below w.heap.size w w28)); clear hg hw hp_; have p114 : 0 ≤ (x11_3 : Int) := of_decide_eq_true (by first | (with_reducible assumption) | assumption); have q114 : x11_3 < (y111.length : Int) := (by have h_ : (x11_3 : Int) < ((x8_3.length : Int) : Int) := of_decide_eq_true (by first | (with_reducible assumption) | assumption); first | (have e_ := (Kd.R_reads' HO_8.out).1; omega) | simpa only [Ny111.out, List.length_set] using h_); have ql114 : ((x11_3 : Int) < ((x8_3.length : Int) : Int)) = True := eq_true (of_decide_eq_true (by first | (with_reducible assumption) | assumption)); obtain ⟨ad114, e114, hx114_0⟩ := Kd.at_int (Kd.R_reads' HO_8.out).2.2 x11_3 p114 q114; obtain rfl : (⟨go22, 0, none⟩ : Addr) = ad114 := (by injection e114); (first | simp only [add_plain] at hx114_0 | simp only [add_at] at hx114_0 | simp only [Addr.add, Nat.zero_add] at hx114_0 | skip); replace p114 := eq_true p114; replace q114 := eq_true q114)))
                                    go_roundg k3
                                    case measure => have := HJ3.out; have := HK2.out; have := HK3.out; omega
                                    case rel => exact ⟨(y111), (y113), (wrap64 (x10_3 - (rd y111 x11_3))), (wrap64 (x11_3 + 1)), (by first | rfl | (simp; done) | (simp [*]; done)), (by first | rfl | (simp; done) | (simp [*]; done)), H', ⟨by have := HJ3.out; have := HK2.out; have := HK3.out; omega⟩, ⟨by (with_reducible repeat (first | apply Kd.R_alloc | apply Kd.R_drewN | apply Kd.R_drew)); exact Kd.R_mono HO_8.out (fun _ hk => hk.2)⟩, ⟨by (with_reducible repeat (first | apply Kd.R_alloc | apply Kd.R_drewN | apply Kd.R_drew)); exact HO_9.out⟩, ⟨bw HB⟩⟩
                                  · rw [if_neg c23] at H
                                    exact absurd H (by simp)
                                · rw [if_neg c21] at H
                                  exact absurd H (by simp)
                            · rw [if_neg c19] at H
                              exact absurd H (by simp)
                          · rw [if_neg c18] at H
                            have c18b0 : decide (x11_3 < (l1.length : Int)) = false := decide_eq_false c18
                            clear c18
                            have H' := Aside0.mk H
                            clear H
                            go_wp2
                            repeat (go_quiet (fail); try go_wp2)
                            (try simp only [Act.put, List.setIfInBounds_toArray, List.set_cons_zero, List.set_cons_succ])
                            go_loopg [10] k3 (fun kq v10 w' => ∃ (x8_4 : List Int) (x9_4 : List Int) (x10_4 : Int), v10 = .int .i64 x10_4 ∧ Aside0 (awardingbodyref01_Apportion.l2 kq x8_4 x9_4 x10_4 = some (r1, r2)) ∧ Aside0 (kq ≤ k3) ∧ Aside0 (Kd.R (Kd.int .i64) 3 w' w.heap.size (fun k_ => some k_ ≠ (v108 : Value).ownBlock) v105 x8_4) ∧ Aside0 (Kd.R (Kd.int .i64) 3 w' w.heap.size (fun k_ => some k_ ≠ (v105 : Value).ownBlock) v108 x9_4) ∧ Aside0 (Below w.heap.size w w'))
                            case atStart => exact ⟨(x8_3), (x9_3), (x10_3), (by first | rfl | (simp; done) | (simp [*]; done)), H', ⟨Nat.le_refl _⟩, ⟨by (with_reducible repeat (first | apply Kd.R_alloc | apply Kd.R_drewN | apply Kd.R_drew)); exact HO_8.out⟩, ⟨by (with_reducible repeat (first | apply Kd.R_alloc | apply Kd.R_drewN | apply Kd.R_drew)); exact HO_9.out⟩, ⟨bw HB⟩⟩
                            case round =>
                              clear H'
                              try clear c1
                              try clear p1
                              try clear q1
                              try clear hx1
                              try clear c2
                              try clear p2
                              try clear q2
                              try clear hx2
                              try clear hf2
                              try clear c3
                              try clear c3b0
                              try clear c3b1
                              try clear c5
                              try clear c5b0
                              try clear c6
                              try clear p6
                              try clear c7
                              try clear c7b0
                              try clear c8
                              try clear c8b0
                              try clear c9
                              try clear c9b0
                              try clear c10
                              try clear c10b0
                              try clear p10
                              try clear q10
                              try clear hx10
                              try clear c11
                              try clear c11b0
                              try clear c11b1
                              try clear p11
                              try clear q11
                              try clear hx11
                              try clear c12
                              try clear c12b0
                              try clear c12b1
                              try clear c13
                              try clear c13b0
                              try clear c13b1
                              try clear c16
                              try clear c18
                              try clear c18b0
                              try clear c19
                              try clear c19b0
                              try clear c20
                              try clear c20b0
                              try clear c20b1
                              try clear c21
                              try clear c21b0
                              try clear p22
                              try clear q22
                              try clear hx22
                              try clear hf22
                              try clear c23
                              try clear c23b0
                              try clear p24
                              try clear q24
                              try clear hx24
                              try clear hf24
                              try clear hx101_0
                              try clear hx102_0
                              try clear hx103_0
                              try clear hx110_0
                              try clear hx112_0
                              try clear hx114_0
                              try clear hx22_0
                              try clear hx24_0
                              try clear p1
                              try clear p10
                              try clear p101
                              try clear p102
                              try clear p103
                              try clear p110
                              try clear p112
                              try clear p114
                              try clear p2
                              try clear p22
                              try clear p24
                              try clear p6
                              try clear q1
                              try clear q10
                              try clear q101
                              try clear q102
                              try clear q103
                              try clear q110
                              try clear q112
                              try clear q114
                              try clear q22
                              try clear q24
                              obtain ⟨x8_4, x9_4, x10_4, rfl, HA, HK4, HO_8, HO_9, HB⟩ := hrel
                              cases gk with
                              | zero => exact absurd HA.out (by simp [awardingbodyref01_Apportion.l2])
                              | succ k4 =>
                                have H := HA.out
                                clear HA
                                simp only [awardingbodyref01_Apportion.l2] at H
                                by_cases c29 : x10_4 > 0
                                · rw [if_pos c29] at H
                                  have c29b0 : decide (0 < x10_4) = true := decide_eq_true c29
                                  clear c29
                                  have H' := Aside0.mk H
                                  clear H
                                  go_wp2
                                  repeat (go_quiet (fail); try go_wp2)
                                  (try simp only [Act.put, List.setIfInBounds_toArray, List.set_cons_zero, List.set_cons_succ])
                                  go_loopg [12, 13] k4 (fun kq v12 v13 w' => ∃ (x12_5 : Int) (x13_5 : Int), v12 = .int .i64 x12_5 ∧ v13 = .int .i64 x13_5 ∧ Aside0 (awardingbodyref01_Apportion.l3 kq x8_4 x9_4 x10_4 x12_5 x13_5 = some (r1, r2)) ∧ Aside0 (kq ≤ k4) ∧ Aside0 (Kd.R (Kd.int .i64) 3 w' w.heap.size (fun k_ => some k_ ≠ (v108 : Value).ownBlock) v105 x8_4) ∧ Aside0 (Kd.R (Kd.int .i64) 3 w' w.heap.size (fun k_ => some k_ ≠ (v105 : Value).ownBlock) v108 x9_4) ∧ Aside0 (Below w.heap.size w w'))
                                  case atStart => exact ⟨(0), (1), (by first | rfl | (simp; done) | (simp [*]; done)), (by first | rfl | (simp; done) | (simp [*]; done)), H', ⟨Nat.le_refl _⟩, ⟨by (with_reducible repeat (first | apply Kd.R_alloc | apply Kd.R_drewN | apply Kd.R_drew)); exact HO_8.out⟩, ⟨by (with_reducible repeat (first | apply Kd.R_alloc | apply Kd.R_drewN | apply Kd.R_drew)); exact HO_9.out⟩, ⟨bw HB⟩⟩
                                  case round =>
                                    clear H'
                                    try clear c1
                                    try clear p1
                                    try clear q1
                                    try clear hx1
                                    try clear c2
                                    try clear p2
                                    try clear q2
                                    try clear hx2
                                    try clear hf2
                                    try clear c3
                                    try clear c3b0
                                    try clear c3b1
                                    try clear c5
                                    try clear c5b0
                                    try clear c6
                                    try clear p6
                                    try clear c7
                                    try clear c7b0
                                    try clear c8
                                    try clear c8b0
                                    try clear c9
                                    try clear c9b0
                                    try clear c10
                                    try clear c10b0
                                    try clear p10
                                    try clear q10
                                    try clear hx10
                                    try clear c11
                                    try clear c11b0
                                    try clear c11b1
                                    try clear p11
                                    try clear q11
                                    try clear hx11
                                    try clear c12
                                    try clear c12b0
                                    try clear c12b1
                                    try clear c13
                                    try clear c13b0
                                    try clear c13b1
                                    try clear c16
                                    try clear c18
                                    try clear c18b0
                                    try clear c19
                                    try clear c19b0
                                    try clear c20
                                    try clear c20b0
                                    try clear c20b1
                                    try clear c21
                                    try clear c21b0
                                    try clear p22
                                    try clear q22
                                    try clear hx22
                                    try clear hf22
                                    try clear c23
                                    try clear c23b0
                                    try clear p24
                                    try clear q24
                                    try clear hx24
                                    try clear hf24
                                    try clear c29
                                    try clear c29b0
                                    try clear hx101_0
                                    try clear hx102_0
                                    try clear hx103_0
                                    try clear hx110_0
                                    try clear hx112_0
                                    try clear hx114_0
                                    try clear hx22_0
                                    try clear hx24_0
                                    try clear p1
                                    try clear p10
                                    try clear p101
                                    try clear p102
                                    try clear p103
                                    try clear p11
                                    try clear p110
                                    try clear p112
                                    try clear p114
                                    try clear p2
                                    try clear p22
                                    try clear p24
                                    try clear p6
                                    try clear q1
                                    try clear q10
                                    try clear q101
                                    try clear q102
                                    try clear q103
                                    try clear q11
                                    try clear q110
                                    try clear q112
                                    try clear q114
                                    try clear q2
                                    try clear q22
                                    try clear q24
                                    obtain ⟨x12_5, x13_5, rfl, rfl, HA, HK5, HO_8, HO_9, HB⟩ := hrel
                                    cases gk with
                                    | zero => exact absurd HA.out (by simp [awardingbodyref01_Apportion.l3])
                                    | succ k5 =>
                                      have H := HA.out
                                      clear HA
                                      simp only [awardingbodyref01_Apportion.l3] at H
                                      by_cases c30 : x13_5 < (x9_4.length : Int)
                                      · rw [if_pos c30] at H
                                        have c30b0 : decide (x13_5 < (x9_4.length : Int)) = true := decide_eq_true c30
                                        clear c30
                                        by_cases c31 : 0 ≤ x13_5
                                        · rw [if_pos c31] at H
                                          have c31b0 : decide (0 ≤ x13_5) = true := decide_eq_true c31
                                          clear c31
                                          by_cases c32 : 0 ≤ x12_5
                                          · rw [if_pos c32] at H
                                            have c32b0 : decide (0 ≤ x12_5) = true := decide_eq_true c32
                                            clear c32
                                            by_cases c33 : x12_5 < (x9_4.length : Int)
                                            · rw [if_pos c33] at H
                                              have c33b0 : decide (x12_5 < (x9_4.length : Int)) = true := decide_eq_true c33
                                              clear c33
                                              by_cases c34 : (rd x9_4 x13_5) > (rd x9_4 x12_5)
                                              · rw [if_pos c34] at H
                                                have c34b0 : decide ((rd x9_4 x12_5) < (rd x9_4 x13_5)) = true := decide_eq_true c34
                                                clear c34
                                                have H' := Aside0.mk H
                                                clear H
                                                obtain ⟨Ao35, co35, eo35⟩ := Kd.R_slice HO_9.out
                                                subst eo35
                                                have p115 : 0 ≤ (x13_5 : Int) := of_decide_eq_true (by first | (with_reducible assumption) | assumption)
                                                have q115 : x13_5 < (x9_4.length : Int) := of_decide_eq_true (by first | (with_reducible assumption) | assumption)
                                                obtain ⟨ad115, e115, hx115_0⟩ := Kd.at_int (Kd.R_reads' HO_9.out).2.2 x13_5 p115 q115
                                                cases e115
                                                replace p115 := eq_true p115
                                                replace q115 := eq_true q115
                                                have p116 : 0 ≤ (x12_5 : Int) := of_decide_eq_true (by first | (with_reducible assumption) | assumption)
                                                have q116 : x12_5 < (x9_4.length : Int) := of_decide_eq_true (by first | (with_reducible assumption) | assumption)
                                                obtain ⟨ad116, e116, hx116_0⟩ := Kd.at_int (Kd.R_reads' HO_9.out).2.2 x12_5 p116 q116
                                                obtain rfl : ad115 = ad116 := (by injection e116)
                                                replace p116 := eq_true p116
                                                replace q116 := eq_true q116
                                                go_wp2
                                                repeat (go_quiet (fail); try go_wp2)
                                                go_roundg k5
                                                case measure => have := HJ3.out; have := HK2.out; have := HK3.out; have := HK4.out; have := HK5.out; omega
                                                case rel => exact ⟨(x13_5), (wrap64 (x13_5 + 1)), (by first | rfl | (simp; done) | (simp [*]; done)), (by first | rfl | (simp; done) | (simp [*]; done)), H', ⟨by have := HJ3.out; have := HK2.out; have := HK3.out; have := HK4.out; have := HK5.out; omega⟩, ⟨by (with_reducible repeat (first | apply Kd.R_alloc | apply Kd.R_drewN | apply Kd.R_drew)); exact HO_8.out⟩, ⟨by (with_reducible repeat (first | apply Kd.R_alloc | apply Kd.R_drewN | apply Kd.R_drew)); exact HO_9.out⟩, ⟨bw HB⟩⟩
                                              · rw [if_neg c34] at H
                                                have c34b0 : decide ((rd x9_4 x12_5) < (rd x9_4 x13_5)) = false := decide_eq_false c34
                                                clear c34
                                                have H' := Aside0.mk H
                                                clear H
                                                obtain ⟨Ao36, co36, eo36⟩ := Kd.R_slice HO_9.out
                                                subst eo36
                                                have p115 : 0 ≤ (x13_5 : Int) := of_decide_eq_true (by first | (with_reducible assumption) | assumption)
                                                have q115 : x13_5 < (x9_4.length : Int) := of_decide_eq_true (by first | (with_reducible assumption) | assumption)
                                                obtain ⟨ad115, e115, hx115_0⟩ := Kd.at_int (Kd.R_reads' HO_9.out).2.2 x13_5 p115 q115
                                                cases e115
                                                replace p115 := eq_true p115
                                                replace q115 := eq_true q115
                                                have p116 : 0 ≤ (x12_5 : Int) := of_decide_eq_true (by first | (with_reducible assumption) | assumption)
                                                have q116 : x12_5 < (x9_4.length : Int) := of_decide_eq_true (by first | (with_reducible assumption) | assumption)
                                                obtain ⟨ad116, e116, hx116_0⟩ := Kd.at_int (Kd.R_reads' HO_9.out).2.2 x12_5 p116 q116
                                                obtain rfl : ad115 = ad116 := (by injection e116)
                                                replace p116 := eq_true p116
                                                replace q116 := eq_true q116
                                                go_wp2
                                                repeat (go_quiet (fail); try go_wp2)
                                                go_roundg k5
                                                case measure => have := HJ3.out; have := HK2.out; have := HK3.out; have := HK4.out; have := HK5.out; omega
                                                case rel => exact ⟨(x12_5), (wrap64 (x13_5 + 1)), (by first | rfl | (simp; done) | (simp [*]; done)), (by first | rfl | (simp; done) | (simp [*]; done)), H', ⟨by have := HJ3.out; have := HK2.out; have := HK3.out; have := HK4.out; have := HK5.out; omega⟩, ⟨by (with_reducible repeat (first | apply Kd.R_alloc | apply Kd.R_drewN | apply Kd.R_drew)); exact HO_8.out⟩, ⟨by (with_reducible repeat (first | apply Kd.R_alloc | apply Kd.R_drewN | apply Kd.R_drew)); exact HO_9.out⟩, ⟨bw HB⟩⟩
                                            · rw [if_neg c33] at H
                                              exact absurd H (by simp)
                                          · rw [if_neg c32] at H
                                            exact absurd H (by simp)
                                        · rw [if_neg c31] at H
                                          exact absurd H (by simp)
                                      · rw [if_neg c30] at H
                                        have c30b0 : decide (x13_5 < (x9_4.length : Int)) = false := decide_eq_false c30
                                        clear c30
                                        by_cases c37 : 0 ≤ x12_5
                                        · rw [if_pos c37] at H
                                          have c37b0 : decide (0 ≤ x12_5) = true := decide_eq_true c37
                                          clear c37
                                          by_cases c38 : x12_5 < (x8_4.length : Int)
                                          · rw [if_pos c38] at H
                                            have c38b0 : decide (x12_5 < (x8_4.length : Int)) = true := decide_eq_true c38
                                            clear c38
                                            obtain ⟨y118, hy118⟩ : ∃ y_ : List Int, y_ = (x8_4.set (x12_5 : Int).toNat (wrap64 ((rd x8_4 x12_5) + 1))) := ⟨_, rfl⟩
                                            replace H : (if x12_5 < (x9_4.length : Int) then (awardingbodyref01_Apportion.l2 k5 y118 (x9_4.set (x12_5 : Int).toNat (-1)) (wrap64 (x10_4 - 1))) else (none)) = some (r1, r2) := by first | (rw [hy118]; with_reducible exact H) | (have H2_ := (Option.bind_some _ _).symm.trans H; rw [hy118]; with_reducible exact H2_) | (have H2_ := (Option.bind_some _ _).symm.trans H; with_reducible exact H2_) | with_reducible exact H | (rw [hy118]; exact H) | exact H
                                            have Ny118 := Aside0.mk hy118
                                            clear hy118
                                            by_cases c40 : x12_5 < (x9_4.length : Int)
                                            · rw [if_pos c40] at H
                                              have c40b0 : decide (x12_5 < (x9_4.length : Int)) = true := decide_eq_true c40
                                              clear c40
                                              obtain ⟨y119, hy119⟩ : ∃ y_ : List Int, y_ = (x9_4.set (x12_5 : Int).toNat (-1)) := ⟨_, rfl⟩
                                              replace H : (awardingbodyref01_Apportion.l2 k5 y118 y119 (wrap64 (x10_4 - 1))) = some (r1, r2) := by first | (rw [hy119]; with_reducible exact H) | (have H2_ := (Option.bind_some _ _).symm.trans H; rw [hy119]; with_reducible exact H2_) | (have H2_ := (Option.bind_some _ _).symm.trans H; with_reducible exact H2_) | with_reducible exact H | (rw [hy119]; exact H) | exact H
                                              have Ny119 := Aside0.mk hy119
                                              clear hy119
                                              have H' := Aside0.mk H
                                              clear H
                                              obtain ⟨Ao42, co42, eo42⟩ := Kd.R_slice HO_9.out
                                              subst eo42
                                              obtain ⟨Ao43, co43, eo43⟩ := Kd.R_slice HO_8.out
                                              subst eo43
                                              have p117 : 0 ≤ (x12_5 : Int) := of_decide_eq_true (by first | (with_reducible assumption) | assumption)
                                              have q117 : x12_5 < (x8_4.length : Int) := of_decide_eq_true (by first | (with_reducible assumption) | assumption)
                                              obtain ⟨ad117, e117, hx117_0⟩ := Kd.at_int (Kd.R_reads' HO_8.out).2.2 x12_5 p117 q117
                                              cases e117
                                              replace p117 := eq_true p117
                                              replace q117 := eq_true q117
                                              have p39 : 0 ≤ (x12_5 : Int) := of_decide_eq_true (by first | (with_reducible assumption) | assumption)
                                              have q39 : (x12_5 : Int) < ((x8_4.length : Int) : Int) := of_decide_eq_true (by first | (with_reducible assumption) | assumption)
                                              obtain ⟨go39, co39, eo39, gb39, gl39, cl39, HG39⟩ := Kd.R_form HO_8.out (by omega)
                                              (first | cases eo39 | (injection eo39 with ea_ en_ ec_; (first | subst ea_ | (injection ea_ with ea_; subst ea_)); subst ec_; clear en_))
                                              have GB39 := Aside0.mk gb39
                                              have GG39 := Aside0.mk HG39
                                              clear gb39 gl39 HG39
                                              (first | simp only [add_plain] at hx117_0 | skip)
                                              obtain ⟨hx39_0, hf39_0⟩ := Kd.R_celln 0 HO_8.out (x12_5 : Int) p39 q39
                                              replace p39 := eq_true p39
                                              replace q39 := eq_true q39
                                              have HP44 := Kd.R_putg HO_8.out (x12_5 : Int) (wrap64 ((rd x8_4 x12_5) + 1))
                                              go_wp2_with (first | ((with_reducible refine gate_store (t := 3) (p := 113) rfl ?_); (try (rw [drewN_self wr]; generalize hq_ : World.drewN wr _ = wr; replace HO_8 := Aside0.mk (Kd.R_at hq_ HO_8.out); replace HO_9 := Aside0.mk (Kd.R_at hq_ HO_9.out); replace HB := Aside0.mk (below_at hq_ HB.out); clear hq_; (try (have HP44 := Kd.R_putg HO_8.out (x12_5 : Int) (wrap64 ((rd x8_4 x12_5) + 1)))))); refine store_event (t := 3) (p := 113) (v := ?vo_w45) (w1 := (wr.setCell ⟨go39, (x12_5 : Int).toNat, none⟩ (.int .i64 (wrap64 ((rd x8_4 x12_5) + 1))))) ?hg ?ho ?hn ?hr ?_; (case ho => rfl); (case hg => rfl); (case hn => rfl); (case hr => first | (go_simp; done) | (go_simp; rfl)); intro w45 hw; have hg : wr.grownBy w45 (some go39) := (by rw [hw]; exact HP44.2); have hp_ : Kd.R (Kd.int .i64) 3 w45 w.heap.size (fun k_ => some k_ ≠ (.slice Ao42 x9_4.length co42 : Value).ownBlock) (.slice (some ⟨go39, 0, none⟩) x8_4.length co43) y118 := (by rw [hw, Ny118.out]; exact HP44.1); clear HP44; replace HO_8 := Aside0.mk (hp_); replace HO_9 := Aside0.mk (Kd.R_after (v := (.slice (some ⟨go39, 0, none⟩) x8_4.length co43)) (v1 := (.slice (some ⟨go39, 0, none⟩) x8_4.length co43)) (ok := (fun _ => True)) (by (with_reducible repeat (first | apply Kd.R_alloc | apply Kd.R_drewN | apply Kd.R_drew)); exact Kd.R_mono HO_9.out (fun _ hk => ⟨trivial, hk⟩)) hg (.inl rfl)); replace HB := Aside0.mk ((by rw [hw]; exact below_set (HB.out) GB39.out : Below w.heap.size w w45)); clear hg hw hp_; have p41 : 0 ≤ (x12_5 : Int) := of_decide_eq_true (by first | (with_reducible assumption) | assumption); have q41 : (x12_5 : Int) < ((x9_4.length : Int) : Int) := of_decide_eq_true (by first | (with_reducible assumption) | assumption); obtain ⟨go41, co41, eo41, gb41, gl41, cl41, HG41⟩ := Kd.R_form HO_9.out (by omega); (first | cases eo41 | (injection eo41 with ea_ en_ ec_; (first | subst ea_ | (injection ea_ with ea_; subst ea_)); subst ec_; clear en_)); have GB41 := Aside0.mk gb41; have GG41 := Aside0.mk HG41; clear gb41 gl41 HG41; obtain ⟨hx41_0, hf41_0⟩ := Kd.R_celln 0 HO_9.out (x12_5 : Int) p41 q41; replace p41 := eq_true p41; replace q41 := eq_true q41; have n_ := Aside0.mk (Kd.R_mono (ok' := (fun k_ => some k_ ≠ (.slice (some ⟨go39, 0, none⟩) x8_4.length co43 : Value).ownBlock)) HO_9.out (fun k_ hk => hk.2)); clear HO_9; have HO_9 := n_; clear n_; obtain ⟨hy46_, hz46_⟩ := Kd.R_celln 0 HO_9.out (x12_5 : Int) (of_decide_eq_true (by first | (with_reducible assumption) | assumption)) (of_decide_eq_true (by first | (with_reducible assumption) | assumption)); have HP46 := Kd.R_putg HO_9.out (x12_5 : Int) (-1)) | ((with_reducible refine gate_store (t := 3) (p := 116) rfl ?_); (try (rw [drewN_self w45]; generalize hq_ : World.drewN w45 _ = w45; replace HO_8 := Aside0.mk (Kd.R_at hq_ HO_8.out); replace HO_9 := Aside0.mk (Kd.R_at hq_ HO_9.out); replace HB := Aside0.mk (below_at hq_ HB.out); clear hq_; (try (have n_ := Aside0.mk (Kd.R_mono (ok' := (fun k_ => some k_ ≠ (.slice (some ⟨go39, 0, none⟩) x8_4.length co43 : Value).ownBlock)) HO_9.out (fun k_ hk => hk.2)); clear HO_9; have HO_9 := n_; clear n_)); (try (obtain ⟨hy46_, hz46_⟩ := Kd.R_celln 0 HO_9.out (x12_5 : Int) (of_decide_eq_true (by first | (with_reducible assumption) | assumption)) (of_decide_eq_true (by first | (with_reducible assumption) | assumption)))); (try (have HP46 := Kd.R_putg HO_9.out (x12_5 : Int) (-1))))); refine store_event (t := 3) (p := 116) (v := ?vo_w47) (w1 := (w45.setCell ⟨go41, (x12_5 : Int).toNat, none⟩ (.int .i64 (-1)))) ?hg ?ho ?hn ?hr ?_; (case ho => rfl); (case hg => rfl); (case hn => rfl); (case hr => first | (go_simp; done) | (go_simp; rfl)); intro w47 hw; have hg : w45.grownBy w47 (some go41) := (by rw [hw]; exact HP46.2); have hp_ : Kd.R (Kd.int .i64) 3 w47 w.heap.size (fun k_ => some k_ ≠ (.slice (some ⟨go39, 0, none⟩) x8_4.length co43 : Value).ownBlock) (.slice (some ⟨go41, 0, none⟩) x9_4.length co42) y119 := (by rw [hw, Ny119.out]; exact HP46.1); clear HP46; replace HO_8 := Aside0.mk (Kd.R_after (v := (.slice (some ⟨go41, 0, none⟩) x9_4.length co42)) (v1 := (.slice (some ⟨go41, 0, none⟩) x9_4.length co42)) (ok := (fun _ => True)) (by (with_reducible repeat (first | apply Kd.R_alloc | apply Kd.R_drewN | apply Kd.R_drew)); exact Kd.R_mono HO_8.out (fun _ hk => ⟨trivial, hk⟩)) hg (.inl rfl)); replace HO_9 := Aside0.mk (hp_); replace HB := Aside0.mk ((by rw [hw]; exact below_set (HB.out) GB41.out : Below w.heap.size w w47)); clear hg hw hp_))
                                              repeat (go_quiet (first | ((with_reducible refine gate_store (t := 3) (p := 113) rfl ?_); (try (rw [drewN_self wr]; generalize hq_ : World.drewN wr _ = wr; replace HO_8 := Aside0.mk (Kd.R_at hq_ HO_8.out); replace HO_9 := Aside0.mk (Kd.R_at hq_ HO_9.out); replace HB := Aside0.mk (below_at hq_ HB.out); clear hq_; (try (have HP44 := Kd.R_putg HO_8.out (x12_5 : Int) (wrap64 ((rd x8_4 x12_5) + 1)))))); refine store_event (t := 3) (p := 113) (v := ?vo_w45) (w1 := (wr.setCell ⟨go39, (x12_5 : Int).toNat, none⟩ (.int .i64 (wrap64 ((rd x8_4 x12_5) + 1))))) ?hg ?ho ?hn ?hr ?_; (case ho => rfl); (case hg => rfl); (case hn => rfl); (case hr => first | (go_simp; done) | (go_simp; rfl)); intro w45 hw; have hg : wr.grownBy w45 (some go39) := (by rw [hw]; exact HP44.2); have hp_ : Kd.R (Kd.int .i64) 3 w45 w.heap.size (fun k_ => some k_ ≠ (.slice Ao42 x9_4.length co42 : Value).ownBlock) (.slice (some ⟨go39, 0, none⟩) x8_4.length co43) y118 := (by rw [hw, Ny118.out]; exact HP44.1); clear HP44; replace HO_8 := Aside0.mk (hp_); replace HO_9 := Aside0.mk (Kd.R_after (v := (.slice (some ⟨go39, 0, none⟩) x8_4.length co43)) (v1 := (.slice (some ⟨go39, 0, none⟩) x8_4.length co43)) (ok := (fun _ => True)) (by (with_reducible repeat (first | apply Kd.R_alloc | apply Kd.R_drewN | apply Kd.R_drew)); exact Kd.R_mono HO_9.out (fun _ hk => ⟨trivial, hk⟩)) hg (.inl rfl)); replace HB := Aside0.mk ((by rw [hw]; exact below_set (HB.out) GB39.out : Below w.heap.size w w45)); clear hg hw hp_; have p41 : 0 ≤ (x12_5 : Int) := of_decide_eq_true (by first | (with_reducible assumption) | assumption); have q41 : (x12_5 : Int) < ((x9_4.length : Int) : Int) := of_decide_eq_true (by first | (with_reducible assumption) | assumption); obtain ⟨go41, co41, eo41, gb41, gl41, cl41, HG41⟩ := Kd.R_form HO_9.out (by omega); (first | cases eo41 | (injection eo41 with ea_ en_ ec_; (first | subst ea_ | (injection ea_ with ea_; subst ea_)); subst ec_; clear en_)); have GB41 := Aside0.mk gb41; have GG41 := Aside0.mk HG41; clear gb41 gl41 HG41; obtain ⟨hx41_0, hf41_0⟩ := Kd.R_celln 0 HO_9.out (x12_5 : Int) p41 q41; replace p41 := eq_true p41; replace q41 := eq_true q41; have n_ := Aside0.mk (Kd.R_mono (ok' := (fun k_ => some k_ ≠ (.slice (some ⟨go39, 0, none⟩) x8_4.length co43 : Value).ownBlock)) HO_9.out (fun k_ hk => hk.2)); clear HO_9; have HO_9 := n_; clear n_; obtain ⟨hy46_, hz46_⟩ := Kd.R_celln 0 HO_9.out (x12_5 : Int) (of_decide_eq_true (by first | (with_reducible assumption) | assumption)) (of_decide_eq_true (by first | (with_reducible assumption) | assumption)); have HP46 := Kd.R_putg HO_9.out (x12_5 : Int) (-1)) | ((with_reducible refine gate_store (t := 3) (p := 116) rfl ?_); (try (rw [drewN_self w45]; generalize hq_ : World.drewN w45 _ = w45; replace HO_8 := Aside0.mk (Kd.R_at hq_ HO_8.out); replace HO_9 := Aside0.mk (Kd.R_at hq_ HO_9.out); replace HB := Aside0.mk (below_at hq_ HB.out); clear hq_; (try (have n_ := Aside0.mk (Kd.R_mono (ok' := (fun k_ => some k_ ≠ (.slice (some ⟨go39, 0, none⟩) x8_4.length co43 : Value).ownBlock)) HO_9.out (fun k_ hk => hk.2)); clear HO_9; have HO_9 := n_; clear n_)); (try (obtain ⟨hy46_, hz46_⟩ := Kd.R_celln 0 HO_9.out (x12_5 : Int) (of_decide_eq_true (by first | (with_reducible assumption) | assumption)) (of_decide_eq_true (by first | (with_reducible assumption) | assumption)))); (try (have HP46 := Kd.R_putg HO_9.out (x12_5 : Int) (-1))))); refine store_event (t := 3) (p := 116) (v := ?vo_w47) (w1 := (w45.setCell ⟨go41, (x12_5 : Int).toNat, none⟩ (.int .i64 (-1)))) ?hg ?ho ?hn ?hr ?_; (case ho => rfl); (case hg => rfl); (case hn => rfl); (case hr => first | (go_simp; done) | (go_simp; rfl)); intro w47 hw; have hg : w45.grownBy w47 (some go41) := (by rw [hw]; exact HP46.2); have hp_ : Kd.R (Kd.int .i64) 3 w47 w.heap.size (fun k_ => some k_ ≠ (.slice (some ⟨go39, 0, none⟩) x8_4.length co43 : Value).ownBlock) (.slice (some ⟨go41, 0, none⟩) x9_4.length co42) y119 := (by rw [hw, Ny119.out]; exact HP46.1); clear HP46; replace HO_8 := Aside0.mk (Kd.R_after (v := (.slice (some ⟨go41, 0, none⟩) x9_4.length co42)) (v1 := (.slice (some ⟨go41, 0, none⟩) x9_4.length co42)) (ok := (fun _ => True)) (by (with_reducible repeat (first | apply Kd.R_alloc | apply Kd.R_drewN | apply Kd.R_drew)); exact Kd.R_mono HO_8.out (fun _ hk => ⟨trivial, hk⟩)) hg (.inl rfl)); replace HO_9 := Aside0.mk (hp_); replace HB := Aside0.mk ((by rw [hw]; exact below_set (HB.out) GB41.out : Below w.heap.size w w47)); clear hg hw hp_)); try go_wp2_with (first | ((with_reducible refine gate_store (t := 3) (p := 113) rfl ?_); (try (rw [drewN_self wr]; generalize hq_ : World.drewN wr _ = wr; replace HO_8 := Aside0.mk (Kd.R_at hq_ HO_8.out); replace HO_9 := Aside0.mk (Kd.R_at hq_ HO_9.out); replace HB := Aside0.mk (below_at hq_ HB.out); clear hq_; (try (have HP44 := Kd.R_putg HO_8.out (x12_5 : Int) (wrap64 ((rd x8_4 x12_5) + 1)))))); refine store_event (t := 3) (p := 113) (v := ?vo_w45) (w1 := (wr.setCell ⟨go39, (x12_5 : Int).toNat, none⟩ (.int .i64 (wrap64 ((rd x8_4 x12_5) + 1))))) ?hg ?ho ?hn ?hr ?_; (case ho => rfl); (case hg => rfl); (case hn => rfl); (case hr => first | (go_simp; done) | (go_simp; rfl)); intro w45 hw; have hg : wr.grownBy w45 (some go39) := (by rw [hw]; exact HP44.2); have hp_ : Kd.R (Kd.int .i64) 3 w45 w.heap.size (fun k_ => some k_ ≠ (.slice Ao42 x9_4.length co42 : Value).ownBlock) (.slice (some ⟨go39, 0, none⟩) x8_4.length co43) y118 := (by rw [hw, Ny118.out]; exact HP44.1); clear HP44; replace HO_8 := Aside0.mk (hp_); replace HO_9 := Aside0.mk (Kd.R_after (v := (.slice (some ⟨go39, 0, none⟩) x8_4.length co43)) (v1 := (.slice (some ⟨go39, 0, none⟩) x8_4.length co43)) (ok := (fun _ => True)) (by (with_reducible repeat (first | apply Kd.R_alloc | apply Kd.R_drewN | apply Kd.R_drew)); exact Kd.R_mono HO_9.out (fun _ hk => ⟨trivial, hk⟩)) hg (.inl rfl)); replace HB := Aside0.mk ((by rw [hw]; exact below_set (HB.out) GB39.out : Below w.heap.size w w45)); clear hg hw hp_; have p41 : 0 ≤ (x12_5 : Int) := of_decide_eq_true (by first | (with_reducible assumption) | assumption); have q41 : (x12_5 : Int) < ((x9_4.length : Int) : Int) := of_decide_eq_true (by first | (with_reducible assumption) | assumption); obtain ⟨go41, co41, eo41, gb41, gl41, cl41, HG41⟩ := Kd.R_form HO_9.out (by omega); (first | cases eo41 | (injection eo41 with ea_ en_ ec_; (first | subst ea_ | (injection ea_ with ea_; subst ea_)); subst ec_; clear en_)); have GB41 := Aside0.mk gb41; have GG41 := Aside0.mk HG41; clear gb41 gl41 HG41; obtain ⟨hx41_0, hf41_0⟩ := Kd.R_celln 0 HO_9.out (x12_5 : Int) p41 q41; replace p41 := eq_true p41; replace q41 := eq_true q41; have n_ := Aside0.mk (Kd.R_mono (ok' := (fun k_ => some k_ ≠ (.slice (some ⟨go39, 0, none⟩) x8_4.length co43 : Value).ownBlock)) HO_9.out (fun k_ hk => hk.2)); clear HO_9; have HO_9 := n_; clear n_; obtain ⟨hy46_, hz46_⟩ := Kd.R_celln 0 HO_9.out (x12_5 : Int) (of_decide_eq_true (by first | (with_reducible assumption) | assumption)) (of_decide_eq_true (by first | (with_reducible assumption) | assumption)); have HP46 := Kd.R_putg HO_9.out (x12_5 : Int) (-1)) | ((with_reducible refine gate_store (t := 3) (p := 116) rfl ?_); (try (rw [drewN_self w45]; generalize hq_ : World.drewN w45 _ = w45; replace HO_8 := Aside0.mk (Kd.R_at hq_ HO_8.out); replace HO_9 := Aside0.mk (Kd.R_at hq_ HO_9.out); replace HB := Aside0.mk (below_at hq_ HB.out); clear hq_; (try (have n_ := Aside0.mk (Kd.R_mono (ok' := (fun k_ => some k_ ≠ (.slice (some ⟨go39, 0, none⟩) x8_4.length co43 : Value).ownBlock)) HO_9.out (fun k_ hk => hk.2)); clear HO_9; have HO_9 := n_; clear n_)); (try (obtain ⟨hy46_, hz46_⟩ := Kd.R_celln 0 HO_9.out (x12_5 : Int) (of_decide_eq_true (by first | (with_reducible assumption) | assumption)) (of_decide_eq_true (by first | (with_reducible assumption) | assumption)))); (try (have HP46 := Kd.R_putg HO_9.out (x12_5 : Int) (-1))))); refine store_event (t := 3) (p := 116) (v := ?vo_w47) (w1 := (w45.setCell ⟨go41, (x12_5 : Int).toNat, none⟩ (.int .i64 (-1)))) ?hg ?ho ?hn ?hr ?_; (case ho => rfl); (case hg => rfl); (case hn => rfl); (case hr => first | (go_simp; done) | (go_simp; rfl)); intro w47 hw; have hg : w45.grownBy w47 (some go41) := (by rw [hw]; exact HP46.2); have hp_ : Kd.R (Kd.int .i64) 3 w47 w.heap.size (fun k_ => some k_ ≠ (.slice (some ⟨go39, 0, none⟩) x8_4.length co43 : Value).ownBlock) (.slice (some ⟨go41, 0, none⟩) x9_4.length co42) y119 := (by rw [hw, Ny119.out]; exact HP46.1); clear HP46; replace HO_8 := Aside0.mk (Kd.R_after (v := (.slice (some ⟨go41, 0, none⟩) x9_4.length co42)) (v1 := (.slice (some ⟨go41, 0, none⟩) x9_4.length co42)) (ok := (fun _ => True)) (by (with_reducible repeat (first | apply Kd.R_alloc | apply Kd.R_drewN | apply Kd.R_drew)); exact Kd.R_mono HO_8.out (fun _ hk => ⟨trivial, hk⟩)) hg (.inl rfl)); replace HO_9 := Aside0.mk (hp_); replace HB := Aside0.mk ((by rw [hw]; exact below_set (HB.out) GB41.out : Below w.heap.size w w47)); clear hg hw hp_)))
                                              go_roundg k5
                                              case measure => have := HJ3.out; have := HK2.out; have := HK3.out; have := HK4.out; have := HK5.out; omega
                                              case rel => exact ⟨(y118), (y119), (wrap64 (x10_4 - 1)), (by first | rfl | (simp; done) | (simp [*]; done)), H', ⟨by have := HJ3.out; have := HK2.out; have := HK3.out; have := HK4.out; have := HK5.out; omega⟩, ⟨by (with_reducible repeat (first | apply Kd.R_alloc | apply Kd.R_drewN | apply Kd.R_drew)); exact Kd.R_mono HO_8.out (fun _ hk => hk.2)⟩, ⟨by (with_reducible repeat (first | apply Kd.R_alloc | apply Kd.R_drewN | apply Kd.R_drew)); exact HO_9.out⟩, ⟨bw HB⟩⟩
                                            · rw [if_neg c40] at H
                                              exact absurd H (by simp)
                                          · rw [if_neg c38] at H
                                            exact absurd H (by simp)
                                        · rw [if_neg c37] at H
                                          exact absurd H (by simp)
                                · rw [if_neg c29] at H
                                  have c29b0 : decide (0 < x10_4) = false := decide_eq_false c29
                                  clear c29
                                  simp only [Option.some.injEq, Prod.mk.injEq] at H
                                  obtain ⟨rfl, rfl⟩ := H
                                  go_wp2
                                  repeat (go_quiet (fail); try go_wp2)
                                  go_ret2
                                  exact ⟨_, by first | rfl | (simp [errW_none, errW_some] <;> rfl) | (simp [*, errW_none, errW_some] <;> rfl), by (with_reducible repeat (first | apply Kd.R_alloc | apply Kd.R_drewN | apply Kd.R_drew)); exact Kd.R_mono HO_8.out (fun _ hk => trivial), bw HB⟩
                    · rw [if_neg c13] at H
                      exact absurd H (by simp)
                  · rw [if_neg c12] at H
                    exact absurd H (by simp)

end Go.Proofs.Ytcbohbeipgcfhaa.G
