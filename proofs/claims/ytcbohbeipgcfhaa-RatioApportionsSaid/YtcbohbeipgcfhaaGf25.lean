-- Printed by gp.py (a program of this session's own, over the kit's printer) out of the translation; Lean checks it.
import Derived.Test.YtcbohbeipgcfhaaG0
import Derived.Test.YtcbohbeipgcfhaaGe1
import Derived.Test.YtcbohbeipgcfhaaGf51
import Derived.Test.YtcbohbeipgcfhaaGf53
namespace Go.Proofs.Ytcbohbeipgcfhaa.G
open Go.Proofs.Ytcbohbeipgcfhaa.Given Go.Proofs.Ytcbohbeipgcfhaa.Short
open Go.RowKit Go.Proofs.YtcbohbeipgcfhaaW.PrintWords Go.Proofs.YtcbohbeipgcfhaaW.PrintLast Go.Proofs.YtcbohbeipgcfhaaW.PrintMore
attribute [local go_sem] max2_int min2_int max_two min_two max_three min_three max_four min_four   -- for this text's walks alone
set_option linter.unusedVariables false
set_option linter.unusedSimpArgs false

attribute [local go_sem high] eqA61
/-! ### awardingbodyref01_Valid: function 25 -/
def awardingbodyref01_Valid.j0 : Nat → Bool → Int → Int → Option (Bool)
  | 0, _, _, _ => none
  | k + 1, x20, x280000, x280001 => if x20 = true then (some false) else ((awardingbodyref01_Size.f x280000).bind fun t280 => ((awardingbodyref01_Size.f x280001).bind fun t281 => ((awardingbodyref01_Divisor.f k 0 t280 0 t281).bind fun bt282 => (some (bt282.1 == 0 && (bt282.2 == 1))))))
def awardingbodyref01_Valid.f (k : Nat) (a0_0 : Int) (a0_1 : Int) : Option (Bool) := if a0_1 < 1 then (awardingbodyref01_Valid.j0 k true a0_0 a0_1) else (if a0_1 > 1152921504606846976 then (awardingbodyref01_Valid.j0 k true a0_0 a0_1) else (if a0_0 < (-1152921504606846976) then (awardingbodyref01_Valid.j0 k true a0_0 a0_1) else (awardingbodyref01_Valid.j0 k (decide (a0_0 > 1152921504606846976)) a0_0 a0_1)))
theorem awardingbodyref01_Valid.mono_l : ∀ k, (∀ y0 y1 y2, LeO (awardingbodyref01_Valid.j0 k y0 y1 y2) (awardingbodyref01_Valid.j0 (k + 1) y0 y1 y2))
  | 0 => fun _ _ _ r h => by simp [awardingbodyref01_Valid.j0] at h
  | k + 1 => by
    have ih0 := awardingbodyref01_Valid.mono_l k
    · intro y0 y1 y2
      unfold awardingbodyref01_Valid.j0
      repeat' first
      | (with_reducible exact ih0 _ _ _)
      | (with_reducible exact awardingbodyref01_Divisor.mono _ _ _ _ _)
      | (with_reducible exact LeO.refl _)
      | (with_reducible exact LeO.none _)
      | (with_reducible refine LeO.ite ?_ ?_)
      | (with_reducible refine LeO.bind ?_ (fun _ => ?_))
      | exact ih0 _ _ _
      | exact awardingbodyref01_Divisor.mono _ _ _ _ _
      | exact LeO.none _
      | refine LeO.ite ?_ ?_
      | refine LeO.bind ?_ (fun _ => ?_)
theorem awardingbodyref01_Valid.mono : ∀ a0 a1 k, LeO (awardingbodyref01_Valid.f k a0 a1) (awardingbodyref01_Valid.f (k + 1) a0 a1) := by
  intro a0 a1 k
  have ih0 := awardingbodyref01_Valid.mono_l k
  unfold awardingbodyref01_Valid.f
  repeat' first
      | (with_reducible exact ih0 _ _ _)
      | (with_reducible exact awardingbodyref01_Divisor.mono _ _ _ _ _)
      | (with_reducible exact LeO.refl _)
      | (with_reducible exact LeO.none _)
      | (with_reducible refine LeO.ite ?_ ?_)
      | (with_reducible refine LeO.bind ?_ (fun _ => ?_))
      | exact ih0 _ _ _
      | exact awardingbodyref01_Divisor.mono _ _ _ _ _
      | exact LeO.none _
      | refine LeO.ite ?_ ?_
      | refine LeO.bind ?_ (fun _ => ?_)
def awardingbodyref01_Valid.T3 : Bool × List (List Nat × List Nat) := (true, [([], []), ([0], [0]), ([1], [1]), ([2], [2]), ([], []), ([4], [4]), ([5, 2], [5]), ([6], [6]), ([3, 7, 6], [3, 7]), ([], []), ([8, 9], [8, 9]), ([10, 8, 0, 1, 2, 3, 4, 5, 6, 7, 8, 9, 10], [10])])
def awardingbodyref01_Valid.B3 : List Nat := [0, 1, 3, 7, 0, 16, 55, 119, 255, 0, 1023, 2047]
theorem awardingbodyref01_Valid.tab3 : rtab .any (opsOf Try.f25 3) = awardingbodyref01_Valid.T3 := by kernel_rfl
theorem awardingbodyref01_Valid.bits3 : waitsOk awardingbodyref01_Valid.T3.2 awardingbodyref01_Valid.B3 = true := by kernel_rfl
set_option maxHeartbeats 8000000 in
set_option maxRecDepth 100000 in
theorem awardingbodyref01_Valid.calls (k : Nat) (a0_0 : Int) (a0_1 : Int) (r : Bool) (w : World) (h : awardingbodyref01_Valid.f k a0_0 a0_1 = some r) :
    Calls Try.prog 25 #[.agg #[.int .i64 a0_0, .int .i64 a0_1]] w fun e w' => e = .returned (.bool r) ∧ Below w.heap.size w w' := by
  have hu35 := Try.underlying35
  have hu61 := Try.underlying61
  have HB := Aside0.mk (Below.refl w.heap.size w)
  have H : (if a0_1 < 1 then (awardingbodyref01_Valid.j0 k true a0_0 a0_1) else (if a0_1 > 1152921504606846976 then (awardingbodyref01_Valid.j0 k true a0_0 a0_1) else (if a0_0 < (-1152921504606846976) then (awardingbodyref01_Valid.j0 k true a0_0 a0_1) else (awardingbodyref01_Valid.j0 k (decide (a0_0 > 1152921504606846976)) a0_0 a0_1)))) = some r := h
  clear h
  have HC2 := Aside0.mk H
  clear H
  go_enter Try.func25, Try.ntmps25
  go_upto_region 1 with (first | ((with_reducible refine gate_dst (N := 1) rfl ?_); refine box_event ?hg (N := 1) ?hd (cs := #[.int .i64 a0_0, .int .i64 a0_1]) (t := 35) ?hr ?_; (case hd => rfl); (case hg => rfl); (case hr => first | (go_simp; done) | (go_simp; rfl)); intro gb279 hg w3 hbox hb; have BK279 := Aside0.mk (hbox); have GW279 := gs HB hg; have GE279 := gs HB hg; replace HB := wb HB hb; clear hb hbox hg))
  (try simp only [Act.put, List.setIfInBounds_toArray, List.set_cons_zero, List.set_cons_succ])
  go_cut [20] (fun v20 wc => ∃ (kq : Nat) (x20_1 : Bool), v20 = .bool x20_1 ∧ Aside0 (awardingbodyref01_Valid.j0 kq x20_1 a0_0 a0_1 = some r) ∧ Aside0 (kq ≤ k) ∧ Aside0 (wc.heap[gb279]? = some (.cells #[.int .i64 a0_0, .int .i64 a0_1] 35 (0, 0))) ∧ Aside0 (Below w.heap.size w wc))
  case first =>
    have H := HC2.out
    clear HC2
    by_cases c4 : a0_1 < 1
    · rw [if_pos c4] at H
      have c4b0 : decide (a0_1 < 1) = true := decide_eq_true c4
      clear c4
      (first | rw [c4b0] | (simp only [i64_w, i32_w]; rw [c4b0]) | skip)
      have H' := Aside0.mk H
      clear H
      have hcz5_0 : w3.cell? ⟨gb279, 0, none⟩ = some (.int .i64 a0_0) := (blk_cell BK279.out 0).trans rfl
      have hcz5_1 : w3.cell? ⟨gb279, 1, none⟩ = some (.int .i64 a0_1) := (blk_cell BK279.out 1).trans rfl
      have hfz5_0 := blk_frozen BK279.out 0
      have hfz5_1 := blk_frozen BK279.out 1
      go_wp2
      go_meet
      case rel => exact ⟨_, (true), (by first | rfl | (simp; done) | (simp [*]; done)), H', ⟨by first | omega | exact Nat.le_refl _⟩, ⟨bq BK279⟩, ⟨bw HB⟩⟩
    · rw [if_neg c4] at H
      have c4b0 : decide (a0_1 < 1) = false := decide_eq_false c4
      clear c4
      (first | rw [c4b0] | (simp only [i64_w, i32_w]; rw [c4b0]) | skip)
      by_cases c6 : a0_1 > 1152921504606846976
      · rw [if_pos c6] at H
        have c6b0 : decide (1152921504606846976 < a0_1) = true := decide_eq_true c6
        clear c6
        have H' := Aside0.mk H
        clear H
        have hcz7_0 : w3.cell? ⟨gb279, 0, none⟩ = some (.int .i64 a0_0) := (blk_cell BK279.out 0).trans rfl
        have hcz7_1 : w3.cell? ⟨gb279, 1, none⟩ = some (.int .i64 a0_1) := (blk_cell BK279.out 1).trans rfl
        have hfz7_0 := blk_frozen BK279.out 0
        have hfz7_1 := blk_frozen BK279.out 1
        go_wp2
        go_meet
        case rel => exact ⟨_, (true), (by first | rfl | (simp; done) | (simp [*]; done)), H', ⟨by first | omega | exact Nat.le_refl _⟩, ⟨bq BK279⟩, ⟨bw HB⟩⟩
      · rw [if_neg c6] at H
        have c6b0 : decide (1152921504606846976 < a0_1) = false := decide_eq_false c6
        clear c6
        by_cases c8 : a0_0 < (-1152921504606846976)
        · rw [if_pos c8] at H
          have c8b0 : decide (a0_0 < (-1152921504606846976)) = true := decide_eq_true c8
          clear c8
          have H' := Aside0.mk H
          clear H
          have hcz9_0 : w3.cell? ⟨gb279, 0, none⟩ = some (.int .i64 a0_0) := (blk_cell BK279.out 0).trans rfl
          have hcz9_1 : w3.cell? ⟨gb279, 1, none⟩ = some (.int .i64 a0_1) := (blk_cell BK279.out 1).trans rfl
          have hfz9_0 := blk_frozen BK279.out 0
          have hfz9_1 := blk_frozen BK279.out 1
          go_wp2
          go_meet
          case rel => exact ⟨_, (true), (by first | rfl | (simp; done) | (simp [*]; done)), H', ⟨by first | omega | exact Nat.le_refl _⟩, ⟨bq BK279⟩, ⟨bw HB⟩⟩
        · rw [if_neg c8] at H
          have c8b0 : decide (a0_0 < (-1152921504606846976)) = false := decide_eq_false c8
          clear c8
          have H' := Aside0.mk H
          clear H
          have hcz10_0 : w3.cell? ⟨gb279, 0, none⟩ = some (.int .i64 a0_0) := (blk_cell BK279.out 0).trans rfl
          have hcz10_1 : w3.cell? ⟨gb279, 1, none⟩ = some (.int .i64 a0_1) := (blk_cell BK279.out 1).trans rfl
          have hfz10_0 := blk_frozen BK279.out 0
          have hfz10_1 := blk_frozen BK279.out 1
          go_wp2
          go_meet
          case rel => exact ⟨_, (decide (a0_0 > 1152921504606846976)), (by first | rfl | (simp; done) | (simp [*]; done)), H', ⟨by first | omega | exact Nat.le_refl _⟩, ⟨bq BK279⟩, ⟨bw HB⟩⟩
  case rest =>
    clear HC2
    try clear c2
    try clear p2
    try clear c4
    try clear c4b0
    try clear c6
    try clear c6b0
    try clear c8
    try clear c8b0
    try clear hcz10_0
    try clear hcz10_1
    try clear hcz5_0
    try clear hcz5_1
    try clear hcz7_0
    try clear hcz7_1
    try clear hcz9_0
    try clear hcz9_1
    try clear hfz10_0
    try clear hfz10_1
    try clear hfz5_0
    try clear hfz5_1
    try clear hfz7_0
    try clear hfz7_1
    try clear hfz9_0
    try clear hfz9_1
    obtain ⟨kq, x20_1, rfl, HA, HJ1, BK279, HB⟩ := hcut
    cases kq with
    | zero => exact absurd HA.out (by simp [awardingbodyref01_Valid.j0])
    | succ kj1 =>
      have H := HA.out
      clear HA
      simp only [awardingbodyref01_Valid.j0] at H
      by_cases c11 : x20_1 = true
      · subst c11
        have H1 : (some false) = some r := by rw [if_pos rfl] at H; exact H
        clear H
        have H := H1
        clear H1
        obtain rfl := Option.some.inj H
        go_wp2
        go_ret
        exact ⟨by first | rfl | (simp [errW_none, errW_some] <;> rfl) | (simp [*, errW_none, errW_some] <;> rfl), bw HB⟩
      · replace c11 := Bool.eq_false_iff.mpr c11
        subst c11
        have H1 : ((awardingbodyref01_Size.f a0_0).bind fun t280 => ((awardingbodyref01_Size.f a0_1).bind fun t281 => ((awardingbodyref01_Divisor.f kj1 0 t280 0 t281).bind fun bt282 => (some (bt282.1 == 0 && (bt282.2 == 1)))))) = some r := by rw [if_neg (show ¬ (false = true) by decide)] at H; exact H
        clear H
        have H := H1
        clear H1
        replace H := Option.bind_eq_some_iff.mp H
        obtain ⟨t280, A120, H⟩ := H
        replace H : ((awardingbodyref01_Size.f a0_1).bind fun t281 => ((awardingbodyref01_Divisor.f kj1 0 t280 0 t281).bind fun bt282 => (some (bt282.1 == 0 && (bt282.2 == 1))))) = some r := H
        have A12 := Aside0.mk A120
        clear A120
        replace H := Option.bind_eq_some_iff.mp H
        obtain ⟨t281, A130, H⟩ := H
        replace H : ((awardingbodyref01_Divisor.f kj1 0 t280 0 t281).bind fun bt282 => (some (bt282.1 == 0 && (bt282.2 == 1)))) = some r := H
        have A13 := Aside0.mk A130
        clear A130
        replace H := Option.bind_eq_some_iff.mp H
        obtain ⟨⟨t282, t283⟩, A140, H⟩ := H
        replace H : (some (t282 == 0 && (t283 == 1))) = some r := H
        have A14 := Aside0.mk A140
        clear A140
        obtain rfl := Option.some.inj H
        try go_wp2
        have n0_ := Aside0.mk (blk_drew BK279.out)
        have n1_ := Aside0.mk (below_drew1 HB.out)
        clear BK279
        clear HB
        have BK279 := n0_
        have HB := n1_
        clear n0_ n1_
        refine start_ (n := 12) (S := fun w' => w'.cell? ⟨gb279, 0, none⟩ = some (.int .i64 a0_0) ∧ w'.cell? ⟨gb279, 1, none⟩ = some (.int .i64 a0_1)) (ds := []) #[false, false, false, false, false, false, false, false, false, false, false, false] (by kernel_rfl) rfl rfl ⟨(blk_cell BK279.out 0).trans rfl, (blk_cell BK279.out 1).trans rfl⟩ (fun hHeld => ?_); refine with_tabW awardingbodyref01_Valid.tab3 awardingbodyref01_Valid.bits3 (fun HT_ HW_ => ?_)
        generalize wc.drew = w15 at BK279 HB hHeld ⊢
        refine pure_ (i := 0) (N := some 21) (v := ?_) (a' := ?_) #[true, false, false, false, false, false, false, false, false, false, false, false] rfl rfl (any_of HT_.out (by kernel_rfl)) (fun _ _ _ h => h) (Or.inl ⟨by rfl, ?_⟩) ?_ ?_
        rotate_left
        · intro w'
          go_simp
          with_reducible rfl
        rotate_left
        · simp only [Act.put, List.setIfInBounds_toArray, List.set_cons_zero, List.set_cons_succ, i64_w, i32_w]
          rfl
        refine pure_ (i := 4) (N := some 25) (v := ?_) (a' := ?_) #[true, false, false, false, true, false, false, false, false, false, false, false] rfl rfl (any_of HT_.out (by kernel_rfl)) (fun _ _ _ h => h) (Or.inl ⟨by rfl, ?_⟩) ?_ ?_
        rotate_left
        · intro w'
          go_simp
          with_reducible rfl
        rotate_left
        · simp only [Act.put, List.setIfInBounds_toArray, List.set_cons_zero, List.set_cons_succ, i64_w, i32_w]
          rfl
        refine pure_ (i := 9) (N := some 30) (v := ?_) (a' := ?_) #[true, false, false, false, true, false, false, false, false, true, false, false] rfl rfl (any_of HT_.out (by kernel_rfl)) (fun _ _ _ h => h) (Or.inl ⟨by rfl, ?_⟩) ?_ ?_
        rotate_left
        · intro w'
          go_simp
          with_reducible rfl
        rotate_left
        · simp only [Act.put, List.setIfInBounds_toArray, List.set_cons_zero, List.set_cons_succ, i64_w, i32_w]
          rfl
        refine take_ (i := 1) (N := some 22) (v := ?_) (a' := ?_) #[true, true, false, false, true, false, false, false, false, true, false, false] rfl rfl (take_ofW HT_.out HW_.out (by kernel_rfl)) (fun _ _ _ h => h) (Or.inl ⟨by rfl, ?_⟩) hHeld ?_ ?_
        rotate_left
        · rintro w' ⟨s0, s1⟩
          go_simp
          with_reducible rfl
        rotate_left
        · simp only [Act.put, List.setIfInBounds_toArray, List.set_cons_zero, List.set_cons_succ, i64_w, i32_w]
          rfl
        refine take_ (i := 5) (N := some 26) (v := ?_) (a' := ?_) #[true, true, false, false, true, true, false, false, false, true, false, false] rfl rfl (take_ofW HT_.out HW_.out (by kernel_rfl)) (fun _ _ _ h => h) (Or.inl ⟨by rfl, ?_⟩) hHeld ?_ ?_
        rotate_left
        · rintro w' ⟨s0, s1⟩
          go_simp
          with_reducible rfl
        rotate_left
        · simp only [Act.put, List.setIfInBounds_toArray, List.set_cons_zero, List.set_cons_succ, i64_w, i32_w]
          rfl
        refine one_ (i := 2) (N := some 23) #[true, true, true, false, true, true, false, false, false, true, false, false] rfl rfl (one_of HT_.out (by kernel_rfl)) (by decide) (fun K hK => ?_)
        refine goes_ Try.func51 (by kernel_rfl) rfl #[.int .i64 a0_0] (by rfl) rfl rfl (by (try simp only [List.map_toArray, List.map_cons, List.map_nil]); first | done | rfl | (simp only [List.length_drop, List.length_take]; rfl)) ?_
        with_reducible refine (awardingbodyref01_Size.calls a0_0 t280 _ A12.out).mono ?_
        rintro e w' ⟨rfl, ⟨nd, rfl⟩⟩
        refine ⟨_, rfl, ?_⟩
        refine hK.out _ _ ⟨(blk_cell BK279.out 0).trans rfl, (blk_cell BK279.out 1).trans rfl⟩ (fun hHeld => ?_)
        clear hK K
        refine norm_ (a' := ?_) ?_ ?_
        rotate_left
        · show Act.put _ (some 23) _ = _
          simp only [Act.put, List.setIfInBounds_toArray, List.set_cons_zero, List.set_cons_succ, i64_w, i32_w]
          rfl
        refine pure_ (i := 3) (N := some 24) (v := ?_) (a' := ?_) #[true, true, true, true, true, true, false, false, false, true, false, false] rfl rfl (any_of HT_.out (by kernel_rfl)) (fun _ _ _ h => h) (Or.inl ⟨by rfl, ?_⟩) ?_ ?_
        rotate_left
        · intro w'
          go_simp
          with_reducible rfl
        rotate_left
        · simp only [Act.put, List.setIfInBounds_toArray, List.set_cons_zero, List.set_cons_succ, i64_w, i32_w]
          rfl
        refine one_ (i := 6) (N := some 27) #[true, true, true, true, true, true, true, false, false, true, false, false] rfl rfl (one_of HT_.out (by kernel_rfl)) (by decide) (fun K hK => ?_)
        refine goes_ Try.func51 (by kernel_rfl) rfl #[.int .i64 a0_1] (by rfl) rfl rfl (by (try simp only [List.map_toArray, List.map_cons, List.map_nil]); first | done | rfl | (simp only [List.length_drop, List.length_take]; rfl)) ?_
        with_reducible refine (awardingbodyref01_Size.calls a0_1 t281 _ A13.out).mono ?_
        rintro e w' ⟨rfl, ⟨nd, rfl⟩⟩
        refine ⟨_, rfl, ?_⟩
        refine hK.out _ _ ⟨(blk_cell BK279.out 0).trans rfl, (blk_cell BK279.out 1).trans rfl⟩ (fun hHeld => ?_)
        clear hK K
        refine norm_ (a' := ?_) ?_ ?_
        rotate_left
        · show Act.put _ (some 27) _ = _
          simp only [Act.put, List.setIfInBounds_toArray, List.set_cons_zero, List.set_cons_succ, i64_w, i32_w]
          rfl
        refine pure_ (i := 7) (N := some 28) (v := ?_) (a' := ?_) #[true, true, true, true, true, true, true, true, false, true, false, false] rfl rfl (any_of HT_.out (by kernel_rfl)) (fun _ _ _ h => h) (Or.inl ⟨by rfl, ?_⟩) ?_ ?_
        rotate_left
        · intro w'
          go_simp
          with_reducible rfl
        rotate_left
        · simp only [Act.put, List.setIfInBounds_toArray, List.set_cons_zero, List.set_cons_succ, i64_w, i32_w]
          rfl
        refine one_ (i := 8) (N := some 29) #[true, true, true, true, true, true, true, true, true, true, false, false] rfl rfl (one_of HT_.out (by kernel_rfl)) (by decide) (fun K hK => ?_)
        refine goes_ Try.func53 (by kernel_rfl) rfl #[.agg #[.int .u64 0, .int .u64 t280], .agg #[.int .u64 0, .int .u64 t281]] (by rfl) rfl rfl (by (try simp only [List.map_toArray, List.map_cons, List.map_nil]); first | done | rfl | (simp only [List.length_drop, List.length_take]; rfl)) ?_
        with_reducible refine (awardingbodyref01_Divisor.calls kj1 0 t280 0 t281 t282 t283 _ A14.out).mono ?_
        rintro e w16 ⟨rfl, hb⟩
        refine ⟨_, rfl, ?_⟩
        have n0_ := kb BK279 hb
        have n1_ := wb HB hb
        clear BK279
        clear HB
        have BK279 := n0_
        have HB := n1_
        clear n0_ n1_
        (try clear hb)
        (try clear hb2)
        (try clear hk)
        (try clear hi)
        refine hK.out _ _ ⟨(blk_cell BK279.out 0).trans rfl, (blk_cell BK279.out 1).trans rfl⟩ (fun hHeld => ?_)
        clear hK K
        refine norm_ (a' := ?_) ?_ ?_
        rotate_left
        · show Act.put _ (some 29) _ = _
          simp only [Act.put, List.setIfInBounds_toArray, List.set_cons_zero, List.set_cons_succ, i64_w, i32_w]
          rfl
        refine pure_ (i := 10) (N := some 31) (v := ?_) (a' := ?_) #[true, true, true, true, true, true, true, true, true, true, true, false] rfl rfl (any_of HT_.out (by kernel_rfl)) (fun _ _ _ h => h) (Or.inl ⟨by rfl, ?_⟩) ?_ ?_
        rotate_left
        · intro w'
          go_simp
          with_reducible rfl
        rotate_left
        · simp only [Act.put, List.setIfInBounds_toArray, List.set_cons_zero, List.set_cons_succ, i64_w, i32_w]
          rfl
        refine pure_ (i := 11) (N := some 2) (v := ?_) (a' := ?_) #[true, true, true, true, true, true, true, true, true, true, true, true] rfl rfl (any_of HT_.out (by kernel_rfl)) (fun _ _ _ h => h) (Or.inl ⟨by rfl, ?_⟩) ?_ ?_
        rotate_left
        · intro w'
          go_simp
          with_reducible rfl
        rotate_left
        · simp only [Act.put, List.setIfInBounds_toArray, List.set_cons_zero, List.set_cons_succ, i64_w, i32_w]
          rfl
        refine done_ (done_of HT_.out (by kernel_rfl)) ?_
        try go_wp2
        go_ret
        exact ⟨by first | rfl | (simp [errW_none, errW_some] <;> rfl) | (simp [*, errW_none, errW_some] <;> rfl), bw HB⟩

end Go.Proofs.Ytcbohbeipgcfhaa.G
