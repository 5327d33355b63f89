-- Printed by gp.py (a program of this session's own, over the kit's printer) out of the translation; Lean checks it.
import Derived.Test.YtcbohbeipgcfhaaG0
import Derived.Test.YtcbohbeipgcfhaaGe1
namespace Go.Proofs.Ytcbohbeipgcfhaa.G
open Go.Proofs.Ytcbohbeipgcfhaa.Given Go.Proofs.Ytcbohbeipgcfhaa.Short
open Go.RowKit Go.Proofs.YtcbohbeipgcfhaaW.PrintWords Go.Proofs.YtcbohbeipgcfhaaW.PrintLast Go.Proofs.YtcbohbeipgcfhaaW.PrintMore
attribute [local go_sem] max2_int min2_int max_two min_two max_three min_three max_four min_four   -- for this text's walks alone
set_option linter.unusedVariables false
set_option linter.unusedSimpArgs false

attribute [local go_sem high] eqA61
/-! ### awardingbodyref01_Order: function 70 -/
def awardingbodyref01_Order.j0 : Nat → Bool → Int → Int → Int → Int → Option (Int)
  | 0, _, _, _, _, _ => none
  | k + 1, x23, x208000, x208001, x209000, x209001 => if x23 = true then (some (-1)) else (if (x208000 == x209000 && (x208001 == x209001)) = true then (some 0) else (some 1))
def awardingbodyref01_Order.f (k : Nat) (a0_0 : Int) (a0_1 : Int) (a1_0 : Int) (a1_1 : Int) : Option (Int) := if a0_0 < a1_0 then (awardingbodyref01_Order.j0 k true a0_0 a0_1 a1_0 a1_1) else (if a0_0 = a1_0 then (awardingbodyref01_Order.j0 k (decide (a0_1 < a1_1)) a0_0 a0_1 a1_0 a1_1) else (awardingbodyref01_Order.j0 k false a0_0 a0_1 a1_0 a1_1))
theorem awardingbodyref01_Order.mono_l : ∀ k, (∀ y0 y1 y2 y3 y4, LeO (awardingbodyref01_Order.j0 k y0 y1 y2 y3 y4) (awardingbodyref01_Order.j0 (k + 1) y0 y1 y2 y3 y4))
  | 0 => fun _ _ _ _ _ r h => by simp [awardingbodyref01_Order.j0] at h
  | k + 1 => by
    have ih0 := awardingbodyref01_Order.mono_l k
    · intro y0 y1 y2 y3 y4
      unfold awardingbodyref01_Order.j0
      repeat' first
      | (with_reducible exact ih0 _ _ _ _ _)
      | (with_reducible exact LeO.refl _)
      | (with_reducible exact LeO.none _)
      | (with_reducible refine LeO.ite ?_ ?_)
      | (with_reducible refine LeO.bind ?_ (fun _ => ?_))
      | exact ih0 _ _ _ _ _
      | exact LeO.none _
      | refine LeO.ite ?_ ?_
      | refine LeO.bind ?_ (fun _ => ?_)
theorem awardingbodyref01_Order.mono : ∀ a0 a1 a2 a3 k, LeO (awardingbodyref01_Order.f k a0 a1 a2 a3) (awardingbodyref01_Order.f (k + 1) a0 a1 a2 a3) := by
  intro a0 a1 a2 a3 k
  have ih0 := awardingbodyref01_Order.mono_l k
  unfold awardingbodyref01_Order.f
  repeat' first
      | (with_reducible exact ih0 _ _ _ _ _)
      | (with_reducible exact LeO.refl _)
      | (with_reducible exact LeO.none _)
      | (with_reducible refine LeO.ite ?_ ?_)
      | (with_reducible refine LeO.bind ?_ (fun _ => ?_))
      | exact ih0 _ _ _ _ _
      | exact LeO.none _
      | refine LeO.ite ?_ ?_
      | refine LeO.bind ?_ (fun _ => ?_)
set_option maxHeartbeats 8000000 in
set_option maxRecDepth 100000 in
theorem awardingbodyref01_Order.calls (k : Nat) (a0_0 : Int) (a0_1 : Int) (a1_0 : Int) (a1_1 : Int) (r : Int) (w : World) (h : awardingbodyref01_Order.f k a0_0 a0_1 a1_0 a1_1 = some r) :
    Calls Try.prog 70 #[.agg #[.int .u64 a0_0, .int .u64 a0_1], .agg #[.int .u64 a1_0, .int .u64 a1_1]] w fun e w' => e = .returned (.int .i64 r) ∧ Below w.heap.size w w' := by
  have hu61 := Try.underlying61
  have HB := Aside0.mk (Below.refl w.heap.size w)
  have H : (if a0_0 < a1_0 then (awardingbodyref01_Order.j0 k true a0_0 a0_1 a1_0 a1_1) else (if a0_0 = a1_0 then (awardingbodyref01_Order.j0 k (decide (a0_1 < a1_1)) a0_0 a0_1 a1_0 a1_1) else (awardingbodyref01_Order.j0 k false a0_0 a0_1 a1_0 a1_1))) = some r := h
  clear h
  have HC3 := Aside0.mk H
  clear H
  go_enter Try.func70, Try.ntmps70
  go_upto_region 1 with (first | ((with_reducible refine gate_dst (N := 2) rfl ?_); refine box_event ?hg (N := 2) ?hd (cs := #[.int .u64 a0_0, .int .u64 a0_1]) (t := 61) ?hr ?_; (case hd => rfl); (case hg => rfl); (case hr => first | (go_simp; done) | (go_simp; rfl)); intro gb207 hg w4 hbox hb; have BK207 := Aside0.mk (hbox); have GW207 := gs HB hg; have GE207 := gs HB hg; replace HB := wb HB hb; clear hb hbox hg) | ((with_reducible refine gate_dst (N := 3) rfl ?_); refine box_event ?hg (N := 3) ?hd (cs := #[.int .u64 a1_0, .int .u64 a1_1]) (t := 61) ?hr ?_; (case hd => rfl); (case hg => rfl); (case hr => first | (go_simp; done) | (go_simp; rfl)); intro gb208 hg w5 hbox hb; have BK208 := Aside0.mk (hbox); have GW208 := gs HB hg; have GE208 := gs HB hg; have NB207_208 := nl BK207 hg; have NB208_207 := nr BK207 hg; replace BK207 := kb BK207 hb; replace HB := wb HB hb; clear hb hbox hg))
  (try simp only [Act.put, List.setIfInBounds_toArray, List.set_cons_zero, List.set_cons_succ])
  go_cut [23] (fun v23 wc => ∃ (kq : Nat) (x23_2 : Bool), v23 = .bool x23_2 ∧ Aside0 (awardingbodyref01_Order.j0 kq x23_2 a0_0 a0_1 a1_0 a1_1 = some r) ∧ Aside0 (kq ≤ k) ∧ Aside0 (wc.heap[gb207]? = some (.cells #[.int .u64 a0_0, .int .u64 a0_1] 61 (0, 0))) ∧ Aside0 (wc.heap[gb208]? = some (.cells #[.int .u64 a1_0, .int .u64 a1_1] 61 (0, 0))) ∧ Aside0 (Below w.heap.size w wc))
  case first =>
    have H := HC3.out
    clear HC3
    by_cases c6 : a0_0 < a1_0
    · rw [if_pos c6] at H
      have c6b0 : decide (a0_0 < a1_0) = true := decide_eq_true c6
      clear c6
      (first | rw [c6b0] | (simp only [i64_w, i32_w]; rw [c6b0]) | skip)
      have H' := Aside0.mk H
      clear H
      obtain ⟨hnb7, hnc7⟩ := n2 NB207_208
      have hcz8_0 : w5.cell? ⟨gb207, 0, none⟩ = some (.int .u64 a0_0) := (blk_cell BK207.out 0).trans rfl
      have hcz8_1 : w5.cell? ⟨gb207, 1, none⟩ = some (.int .u64 a0_1) := (blk_cell BK207.out 1).trans rfl
      have hfz8_0 := blk_frozen BK207.out 0
      have hfz8_1 := blk_frozen BK207.out 1
      have hcz9_0 : w5.cell? ⟨gb208, 0, none⟩ = some (.int .u64 a1_0) := (blk_cell BK208.out 0).trans rfl
      have hcz9_1 : w5.cell? ⟨gb208, 1, none⟩ = some (.int .u64 a1_1) := (blk_cell BK208.out 1).trans rfl
      have hfz9_0 := blk_frozen BK208.out 0
      have hfz9_1 := blk_frozen BK208.out 1
      go_wp2
      go_meet
      case rel => exact ⟨_, (true), (by first | rfl | (simp; done) | (simp [*]; done)), H', ⟨by first | omega | exact Nat.le_refl _⟩, ⟨bq BK207⟩, ⟨bq BK208⟩, ⟨bw HB⟩⟩
    · rw [if_neg c6] at H
      have c6b0 : decide (a0_0 < a1_0) = false := decide_eq_false c6
      clear c6
      (first | rw [c6b0] | (simp only [i64_w, i32_w]; rw [c6b0]) | skip)
      by_cases c10 : a0_0 = a1_0
      · rw [if_pos c10] at H
        have c10b0 : (a0_0 == a1_0) = true := beq_iff_eq.mpr c10
        have c10b1 : (a0_0 != a1_0) = false := bne_eq_false_iff_eq.mpr c10
        clear c10
        have H' := Aside0.mk H
        clear H
        obtain ⟨hnb11, hnc11⟩ := n2 NB207_208
        have hcz12_0 : w5.cell? ⟨gb207, 0, none⟩ = some (.int .u64 a0_0) := (blk_cell BK207.out 0).trans rfl
        have hcz12_1 : w5.cell? ⟨gb207, 1, none⟩ = some (.int .u64 a0_1) := (blk_cell BK207.out 1).trans rfl
        have hfz12_0 := blk_frozen BK207.out 0
        have hfz12_1 := blk_frozen BK207.out 1
        have hcz13_0 : w5.cell? ⟨gb208, 0, none⟩ = some (.int .u64 a1_0) := (blk_cell BK208.out 0).trans rfl
        have hcz13_1 : w5.cell? ⟨gb208, 1, none⟩ = some (.int .u64 a1_1) := (blk_cell BK208.out 1).trans rfl
        have hfz13_0 := blk_frozen BK208.out 0
        have hfz13_1 := blk_frozen BK208.out 1
        go_wp2
        go_meet
        case rel => exact ⟨_, (decide (a0_1 < a1_1)), (by first | rfl | (simp; done) | (simp [*]; done)), H', ⟨by first | omega | exact Nat.le_refl _⟩, ⟨bq BK207⟩, ⟨bq BK208⟩, ⟨bw HB⟩⟩
      · rw [if_neg c10] at H
        have c10b0 : (a0_0 == a1_0) = false := beq_eq_false_iff_ne.mpr c10
        have c10b1 : (a0_0 != a1_0) = true := bne_iff_ne.mpr c10
        have H' := Aside0.mk H
        clear H
        obtain ⟨hnb14, hnc14⟩ := n2 NB207_208
        have hcz15_0 : w5.cell? ⟨gb207, 0, none⟩ = some (.int .u64 a0_0) := (blk_cell BK207.out 0).trans rfl
        have hcz15_1 : w5.cell? ⟨gb207, 1, none⟩ = some (.int .u64 a0_1) := (blk_cell BK207.out 1).trans rfl
        have hfz15_0 := blk_frozen BK207.out 0
        have hfz15_1 := blk_frozen BK207.out 1
        have hcz16_0 : w5.cell? ⟨gb208, 0, none⟩ = some (.int .u64 a1_0) := (blk_cell BK208.out 0).trans rfl
        have hcz16_1 : w5.cell? ⟨gb208, 1, none⟩ = some (.int .u64 a1_1) := (blk_cell BK208.out 1).trans rfl
        have hfz16_0 := blk_frozen BK208.out 0
        have hfz16_1 := blk_frozen BK208.out 1
        go_wp2
        go_meet
        case rel => exact ⟨_, (false), (by first | rfl | (simp; done) | (simp [*]; done)), H', ⟨by first | omega | exact Nat.le_refl _⟩, ⟨bq BK207⟩, ⟨bq BK208⟩, ⟨bw HB⟩⟩
  case rest =>
    clear HC3
    try clear c1
    try clear p2
    try clear c6
    try clear c6b0
    try clear c7
    try clear c10
    try clear c10b0
    try clear c10b1
    try clear c11
    try clear c14
    try clear hcz12_0
    try clear hcz12_1
    try clear hcz13_0
    try clear hcz13_1
    try clear hcz15_0
    try clear hcz15_1
    try clear hcz16_0
    try clear hcz16_1
    try clear hcz8_0
    try clear hcz8_1
    try clear hcz9_0
    try clear hcz9_1
    try clear hfz12_0
    try clear hfz12_1
    try clear hfz13_0
    try clear hfz13_1
    try clear hfz15_0
    try clear hfz15_1
    try clear hfz16_0
    try clear hfz16_1
    try clear hfz8_0
    try clear hfz8_1
    try clear hfz9_0
    try clear hfz9_1
    obtain ⟨kq, x23_2, rfl, HA, HJ2, BK207, BK208, HB⟩ := hcut
    cases kq with
    | zero => exact absurd HA.out (by simp [awardingbodyref01_Order.j0])
    | succ kj2 =>
      have H := HA.out
      clear HA
      simp only [awardingbodyref01_Order.j0] at H
      by_cases c17 : x23_2 = true
      · subst c17
        have H1 : (some (-1)) = some r := by rw [if_pos rfl] at H; exact H
        clear H
        have H := H1
        clear H1
        obtain rfl := Option.some.inj H
        go_wp2
        go_ret
        exact ⟨by first | rfl | (simp [errW_none, errW_some] <;> rfl) | (simp [*, errW_none, errW_some] <;> rfl), bw HB⟩
      · replace c17 := Bool.eq_false_iff.mpr c17
        subst c17
        have H1 : (if (a0_0 == a1_0 && (a0_1 == a1_1)) = true then (some 0) else (some 1)) = some r := by rw [if_neg (show ¬ (false = true) by decide)] at H; exact H
        clear H
        have H := H1
        clear H1
        by_cases c18 : (a0_0 == a1_0 && (a0_1 == a1_1)) = true
        · rw [if_pos c18] at H
          have c18b0 : (a0_0 == a1_0 && (a0_1 == a1_1)) = true := c18
          (try (have c18b1 : decide (a0_0 = a1_0 && (a0_1 == a1_1)) = true := by simpa using c18))
          (try (have c18b2 : (a0_0 == a1_0 && (a0_1 == a1_1)) = true := by simpa using c18))
          clear c18
          obtain rfl := Option.some.inj H
          obtain ⟨hnb19, hnc19⟩ := n2 NB207_208
          have hcz20_0 : wc.cell? ⟨gb207, 0, none⟩ = some (.int .u64 a0_0) := (blk_cell BK207.out 0).trans rfl
          have hcz20_1 : wc.cell? ⟨gb207, 1, none⟩ = some (.int .u64 a0_1) := (blk_cell BK207.out 1).trans rfl
          have hfz20_0 := blk_frozen BK207.out 0
          have hfz20_1 := blk_frozen BK207.out 1
          have hcz21_0 : wc.cell? ⟨gb208, 0, none⟩ = some (.int .u64 a1_0) := (blk_cell BK208.out 0).trans rfl
          have hcz21_1 : wc.cell? ⟨gb208, 1, none⟩ = some (.int .u64 a1_1) := (blk_cell BK208.out 1).trans rfl
          have hfz21_0 := blk_frozen BK208.out 0
          have hfz21_1 := blk_frozen BK208.out 1
          go_wp2
          go_ret
          exact ⟨by first | rfl | (simp [errW_none, errW_some] <;> rfl) | (simp [*, errW_none, errW_some] <;> rfl), bw HB⟩
        · rw [if_neg c18] at H
          have c18b0 : (a0_0 == a1_0 && (a0_1 == a1_1)) = false := by simpa using c18
          (try (have c18b1 : decide (a0_0 = a1_0 && (a0_1 == a1_1)) = false := by simpa using c18))
          (try (have c18b2 : (a0_0 == a1_0 && (a0_1 == a1_1)) = false := by simpa using c18))
          (try (have c18b3 : ¬ (a0_0 = a1_0 && (a0_1 == a1_1)) := by simpa using c18))
          clear c18
          obtain rfl := Option.some.inj H
          obtain ⟨hnb22, hnc22⟩ := n2 NB207_208
          have hcz23_0 : wc.cell? ⟨gb207, 0, none⟩ = some (.int .u64 a0_0) := (blk_cell BK207.out 0).trans rfl
          have hcz23_1 : wc.cell? ⟨gb207, 1, none⟩ = some (.int .u64 a0_1) := (blk_cell BK207.out 1).trans rfl
          have hfz23_0 := blk_frozen BK207.out 0
          have hfz23_1 := blk_frozen BK207.out 1
          have hcz24_0 : wc.cell? ⟨gb208, 0, none⟩ = some (.int .u64 a1_0) := (blk_cell BK208.out 0).trans rfl
          have hcz24_1 : wc.cell? ⟨gb208, 1, none⟩ = some (.int .u64 a1_1) := (blk_cell BK208.out 1).trans rfl
          have hfz24_0 := blk_frozen BK208.out 0
          have hfz24_1 := blk_frozen BK208.out 1
          go_wp2
          go_ret
          exact ⟨by first | rfl | (simp [errW_none, errW_some] <;> rfl) | (simp [*, errW_none, errW_some] <;> rfl), bw HB⟩

end Go.Proofs.Ytcbohbeipgcfhaa.G
