/- Texts of this claim laid together: Gf25, Gf58, Gf69, Gf60. -/
import Derived.Test.YtcbohbeipgcfhaaG0
import Derived.Test.YtcbohbeipgcfhaaGe1
import Derived.Test.YtcbohbeipgcfhaaZAdn4
import Derived.Test.YtcbohbeipgcfhaaZAdn6
import Derived.Test.YtcbohbeipgcfhaaZAdn2
import Derived.Test.YtcbohbeipgcfhaaZAdn3
-- Printed by gp.py (a program of this session's own, over the kit's printer) out of the translation; Lean checks it.
namespace Go.Proofs.Ytcbohbeipgcfhaa.G
open Go.Proofs.Ytcbohbeipgcfhaa.Given Go.Proofs.Ytcbohbeipgcfhaa.Short
open Go.RowKit Go.Proofs.YtcbohbeipgcfhaaW.PrintWords Go.Proofs.YtcbohbeipgcfhaaW.PrintLast Go.Proofs.YtcbohbeipgcfhaaW.PrintMore
attribute [local go_sem] max2_int min2_int max_two min_two max_three min_three max_four min_four   -- for this text's walks alone
set_option linter.unusedVariables false
set_option linter.unusedSimpArgs false

attribute [local go_sem high] eqA61
/-! ### awardingbodyref01_Valid: function 25 -/
def awardingbodyref01_Valid.j0 : Nat → Bool → Int → Int → Option (Bool)
 | 0, _, _, _ => none
 | k + 1, x20, x280000, x280001 => if x20 = true then (some false) else ((awardingbodyref01_Size.f x280000).bind fun t280 => ((awardingbodyref01_Size.f x280001).bind fun t281 => ((awardingbodyref01_Divisor.f k 0 t280 0 t281).bind fun bt282 => (some (bt282.1 == 0 && (bt282.2 == 1))))))
def awardingbodyref01_Valid.f (k : Nat) (a0_0 : Int) (a0_1 : Int) : Option (Bool) := if a0_1 < 1 then (awardingbodyref01_Valid.j0 k true a0_0 a0_1) else (if a0_1 > 1152921504606846976 then (awardingbodyref01_Valid.j0 k true a0_0 a0_1) else (if a0_0 < (-1152921504606846976) then (awardingbodyref01_Valid.j0 k true a0_0 a0_1) else (awardingbodyref01_Valid.j0 k (decide (a0_0 > 1152921504606846976)) a0_0 a0_1)))
theorem awardingbodyref01_Valid.mono_l : ∀ k, (∀ y0 y1 y2, LeO (awardingbodyref01_Valid.j0 k y0 y1 y2) (awardingbodyref01_Valid.j0 (k + 1) y0 y1 y2))
 | 0 => fun _ _ _ r h => by simp [awardingbodyref01_Valid.j0] at h
 | k + 1 => by
  have ih0 := awardingbodyref01_Valid.mono_l k
  ·intro y0 y1 y2
   unfold awardingbodyref01_Valid.j0
   repeat' first
   | (with_reducible exact ih0 _ _ _)
   | (with_reducible exact awardingbodyref01_Divisor.mono _ _ _ _ _)
   | (with_reducible exact LeO.refl _)
   | (with_reducible exact LeO.none _)
   | (with_reducible refine LeO.ite ?_ ?_)
   | (with_reducible refine LeO.bind ?_ (fun _ => ?_))
   | exact ih0 _ _ _
   | exact awardingbodyref01_Divisor.mono _ _ _ _ _
   | exact LeO.none _
   | refine LeO.ite ?_ ?_
   | refine LeO.bind ?_ (fun _ => ?_)
theorem awardingbodyref01_Valid.mono : ∀ a0 a1 k, LeO (awardingbodyref01_Valid.f k a0 a1) (awardingbodyref01_Valid.f (k + 1) a0 a1) := by
 intro a0 a1 k
 have ih0 := awardingbodyref01_Valid.mono_l k
 unfold awardingbodyref01_Valid.f
 repeat' first
   | (with_reducible exact ih0 _ _ _)
   | (with_reducible exact awardingbodyref01_Divisor.mono _ _ _ _ _)
   | (with_reducible exact LeO.refl _)
   | (with_reducible exact LeO.none _)
   | (with_reducible refine LeO.ite ?_ ?_)
   | (with_reducible refine LeO.bind ?_ (fun _ => ?_))
   | exact ih0 _ _ _
   | exact awardingbodyref01_Divisor.mono _ _ _ _ _
   | exact LeO.none _
   | refine LeO.ite ?_ ?_
   | refine LeO.bind ?_ (fun _ => ?_)
def awardingbodyref01_Valid.T3 : Bool × List (List Nat × List Nat) := (true, [([], []), ([0], [0]), ([1], [1]), ([2], [2]), ([], []), ([4], [4]), ([5, 2], [5]), ([6], [6]), ([3, 7, 6], [3, 7]), ([], []), ([8, 9], [8, 9]), ([10, 8, 0, 1, 2, 3, 4, 5, 6, 7, 8, 9, 10], [10])])
def awardingbodyref01_Valid.B3 : List Nat := [0, 1, 3, 7, 0, 16, 55, 119, 255, 0, 1023, 2047]
theorem awardingbodyref01_Valid.tab3 : rtab .any (opsOf Try.f25 3) = awardingbodyref01_Valid.T3 := by kernel_rfl
theorem awardingbodyref01_Valid.bits3 : waitsOk awardingbodyref01_Valid.T3.2 awardingbodyref01_Valid.B3 = true := by kernel_rfl
set_option maxHeartbeats 8000000 in
set_option maxRecDepth 100000 in
theorem awardingbodyref01_Valid.calls (k : Nat) (a0_0 : Int) (a0_1 : Int) (r : Bool) (w : World) (h : awardingbodyref01_Valid.f k a0_0 a0_1 = some r) :
  Calls Try.prog 25 #[.agg #[.int .i64 a0_0, .int .i64 a0_1]] w fun e w' => e = .returned (.bool r) ∧ Below w.heap.size w w' := by
 have hu35 := Try.underlying35
 have hu61 := Try.underlying61
 have HB := Aside0.mk (Below.refl w.heap.size w)
 have H : (if a0_1 < 1 then (awardingbodyref01_Valid.j0 k true a0_0 a0_1) else (if a0_1 > 1152921504606846976 then (awardingbodyref01_Valid.j0 k true a0_0 a0_1) else (if a0_0 < (-1152921504606846976) then (awardingbodyref01_Valid.j0 k true a0_0 a0_1) else (awardingbodyref01_Valid.j0 k (decide (a0_0 > 1152921504606846976)) a0_0 a0_1)))) = some r := h
 clear h
 have HC2 := Aside0.mk H
 clear H
 go_enter Try.func25, Try.ntmps25
 go_upto_region 1 with (first | ((with_reducible refine gate_dst (N := 1) rfl ?_); refine box_event ?hg (N := 1) ?hd (cs := #[.int .i64 a0_0, .int .i64 a0_1]) (t := 35) ?hr ?_; (case hd => rfl); (case hg => rfl); (case hr => first | (go_simp; done) | (go_simp; rfl)); intro gb279 hg w3 hbox hb; have BK279 := Aside0.mk (hbox); have GW279 := gs HB hg; have GE279 := gs HB hg; replace HB := wb HB hb; clear hb hbox hg))
 (try simp only [Act.put, List.setIfInBounds_toArray, List.set_cons_zero, List.set_cons_succ])
 go_cut [20] (fun v20 wc => ∃ (kq : Nat) (x20_1 : Bool), v20 = .bool x20_1 ∧ Aside0 (awardingbodyref01_Valid.j0 kq x20_1 a0_0 a0_1 = some r) ∧ Aside0 (kq ≤ k) ∧ Aside0 (wc.heap[gb279]? = some (.cells #[.int .i64 a0_0, .int .i64 a0_1] 35 (0, 0))) ∧ Aside0 (Below w.heap.size w wc))
 case first =>
  have H := HC2.out
  clear HC2
  by_cases c4 : a0_1 < 1
  ·rw [if_pos c4] at H
   have c4b0 : decide (a0_1 < 1) = true := decide_eq_true c4
   clear c4
   (first | rw [c4b0] | (simp only [i64_w, i32_w]; rw [c4b0]) | skip)
   have H' := Aside0.mk H
   clear H
   have hcz5_0 : w3.cell? ⟨gb279, 0, none⟩ = some (.int .i64 a0_0) := (blk_cell BK279.out 0).trans rfl
   have hcz5_1 : w3.cell? ⟨gb279, 1, none⟩ = some (.int .i64 a0_1) := (blk_cell BK279.out 1).trans rfl
   have hfz5_0 := blk_frozen BK279.out 0
   have hfz5_1 := blk_frozen BK279.out 1
   go_wp2
   go_meet
   case rel => exact ⟨_, (true), (by first | rfl | (simp; done) | (simp [*]; done)), H', ⟨by first | omega | exact Nat.le_refl _⟩, ⟨bq BK279⟩, ⟨bw HB⟩⟩
  ·rw [if_neg c4] at H
   have c4b0 : decide (a0_1 < 1) = false := decide_eq_false c4
   clear c4
   (first | rw [c4b0] | (simp only [i64_w, i32_w]; rw [c4b0]) | skip)
   by_cases c6 : a0_1 > 1152921504606846976
   ·rw [if_pos c6] at H
    have c6b0 : decide (1152921504606846976 < a0_1) = true := decide_eq_true c6
    clear c6
    have H' := Aside0.mk H
    clear H
    have hcz7_0 : w3.cell? ⟨gb279, 0, none⟩ = some (.int .i64 a0_0) := (blk_cell BK279.out 0).trans rfl
    have hcz7_1 : w3.cell? ⟨gb279, 1, none⟩ = some (.int .i64 a0_1) := (blk_cell BK279.out 1).trans rfl
    have hfz7_0 := blk_frozen BK279.out 0
    have hfz7_1 := blk_frozen BK279.out 1
    go_wp2
    go_meet
    case rel => exact ⟨_, (true), (by first | rfl | (simp; done) | (simp [*]; done)), H', ⟨by first | omega | exact Nat.le_refl _⟩, ⟨bq BK279⟩, ⟨bw HB⟩⟩
   ·rw [if_neg c6] at H
    have c6b0 : decide (1152921504606846976 < a0_1) = false := decide_eq_false c6
    clear c6
    by_cases c8 : a0_0 < (-1152921504606846976)
    ·rw [if_pos c8] at H
     have c8b0 : decide (a0_0 < (-1152921504606846976)) = true := decide_eq_true c8
     clear c8
     have H' := Aside0.mk H
     clear H
     have hcz9_0 : w3.cell? ⟨gb279, 0, none⟩ = some (.int .i64 a0_0) := (blk_cell BK279.out 0).trans rfl
     have hcz9_1 : w3.cell? ⟨gb279, 1, none⟩ = some (.int .i64 a0_1) := (blk_cell BK279.out 1).trans rfl
     have hfz9_0 := blk_frozen BK279.out 0
     have hfz9_1 := blk_frozen BK279.out 1
     go_wp2
     go_meet
     case rel => exact ⟨_, (true), (by first | rfl | (simp; done) | (simp [*]; done)), H', ⟨by first | omega | exact Nat.le_refl _⟩, ⟨bq BK279⟩, ⟨bw HB⟩⟩
    ·rw [if_neg c8] at H
     have c8b0 : decide (a0_0 < (-1152921504606846976)) = false := decide_eq_false c8
     clear c8
     have H' := Aside0.mk H
     clear H
     have hcz10_0 : w3.cell? ⟨gb279, 0, none⟩ = some (.int .i64 a0_0) := (blk_cell BK279.out 0).trans rfl
     have hcz10_1 : w3.cell? ⟨gb279, 1, none⟩ = some (.int .i64 a0_1) := (blk_cell BK279.out 1).trans rfl
     have hfz10_0 := blk_frozen BK279.out 0
     have hfz10_1 := blk_frozen BK279.out 1
     go_wp2
     go_meet
     case rel => exact ⟨_, (decide (a0_0 > 1152921504606846976)), (by first | rfl | (simp; done) | (simp [*]; done)), H', ⟨by first | omega | exact Nat.le_refl _⟩, ⟨bq BK279⟩, ⟨bw HB⟩⟩
 case rest =>
  clear HC2
  try clear c2
  try clear p2
  try clear c4
  try clear c4b0
  try clear c6
  try clear c6b0
  try clear c8
  try clear c8b0
  try clear hcz10_0
  try clear hcz10_1
  try clear hcz5_0
  try clear hcz5_1
  try clear hcz7_0
  try clear hcz7_1
  try clear hcz9_0
  try clear hcz9_1
  try clear hfz10_0
  try clear hfz10_1
  try clear hfz5_0
  try clear hfz5_1
  try clear hfz7_0
  try clear hfz7_1
  try clear hfz9_0
  try clear hfz9_1
  obtain ⟨kq, x20_1, rfl, HA, HJ1, BK279, HB⟩ := hcut
  cases kq with
  | zero => exact absurd HA.out (by simp [awardingbodyref01_Valid.j0])
  | succ kj1 =>
   have H := HA.out
   clear HA
   simp only [awardingbodyref01_Valid.j0] at H
   by_cases c11 : x20_1 = true
   ·subst c11
    have H1 : (some false) = some r := by rw [if_pos rfl] at H; exact H
    clear H
    have H := H1
    clear H1
    obtain rfl := Option.some.inj H
    go_wp2
    go_ret
    exact ⟨by first | rfl | (simp [errW_none, errW_some] <;> rfl) | (simp [*, errW_none, errW_some] <;> rfl), bw HB⟩
   ·replace c11 := Bool.eq_false_iff.mpr c11
    subst c11
    have H1 : ((awardingbodyref01_Size.f a0_0).bind fun t280 => ((awardingbodyref01_Size.f a0_1).bind fun t281 => ((awardingbodyref01_Divisor.f kj1 0 t280 0 t281).bind fun bt282 => (some (bt282.1 == 0 && (bt282.2 == 1)))))) = some r := by rw [if_neg (show ¬ (false = true) by decide)] at H; exact H
    clear H
    have H := H1
    clear H1
    replace H := Option.bind_eq_some_iff.mp H
    obtain ⟨t280, A120, H⟩ := H
    replace H : ((awardingbodyref01_Size.f a0_1).bind fun t281 => ((awardingbodyref01_Divisor.f kj1 0 t280 0 t281).bind fun bt282 => (some (bt282.1 == 0 && (bt282.2 == 1))))) = some r := H
    have A12 := Aside0.mk A120
    clear A120
    replace H := Option.bind_eq_some_iff.mp H
    obtain ⟨t281, A130, H⟩ := H
    replace H : ((awardingbodyref01_Divisor.f kj1 0 t280 0 t281).bind fun bt282 => (some (bt282.1 == 0 && (bt282.2 == 1)))) = some r := H
    have A13 := Aside0.mk A130
    clear A130
    replace H := Option.bind_eq_some_iff.mp H
    obtain ⟨⟨t282, t283⟩, A140, H⟩ := H
    replace H : (some (t282 == 0 && (t283 == 1))) = some r := H
    have A14 := Aside0.mk A140
    clear A140
    obtain rfl := Option.some.inj H
    try go_wp2
    have n0_ := Aside0.mk (blk_drew BK279.out)
    have n1_ := Aside0.mk (below_drew1 HB.out)
    clear BK279
    clear HB
    have BK279 := n0_
    have HB := n1_
    clear n0_ n1_
    refine start_ (n := 12) (S := fun w' => w'.cell? ⟨gb279, 0, none⟩ = some (.int .i64 a0_0) ∧ w'.cell? ⟨gb279, 1, none⟩ = some (.int .i64 a0_1)) (ds := []) #[false, false, false, false, false, false, false, false, false, false, false, false] (by kernel_rfl) rfl rfl ⟨(blk_cell BK279.out 0).trans rfl, (blk_cell BK279.out 1).trans rfl⟩ (fun hHeld => ?_); refine with_tabW awardingbodyref01_Valid.tab3 awardingbodyref01_Valid.bits3 (fun HT_ HW_ => ?_)
    generalize wc.drew = w15 at BK279 HB hHeld ⊢
    refine pure_ (i := 0) (N := some 21) (v := ?_) (a' := ?_) #[true, false, false, false, false, false, false, false, false, false, false, false] rfl rfl (any_of HT_.out (by kernel_rfl)) (fun _ _ _ h => h) (Or.inl ⟨by rfl, ?_⟩) ?_ ?_
    rotate_left
    ·intro w'
     go_simp
     with_reducible rfl
    rotate_left
    ·simp only [Act.put, List.setIfInBounds_toArray, List.set_cons_zero, List.set_cons_succ, i64_w, i32_w]
     rfl
    refine pure_ (i := 4) (N := some 25) (v := ?_) (a' := ?_) #[true, false, false, false, true, false, false, false, false, false, false, false] rfl rfl (any_of HT_.out (by kernel_rfl)) (fun _ _ _ h => h) (Or.inl ⟨by rfl, ?_⟩) ?_ ?_
    rotate_left
    ·intro w'
     go_simp
     with_reducible rfl
    rotate_left
    ·simp only [Act.put, List.setIfInBounds_toArray, List.set_cons_zero, List.set_cons_succ, i64_w, i32_w]
     rfl
    refine pure_ (i := 9) (N := some 30) (v := ?_) (a' := ?_) #[true, false, false, false, true, false, false, false, false, true, false, false] rfl rfl (any_of HT_.out (by kernel_rfl)) (fun _ _ _ h => h) (Or.inl ⟨by rfl, ?_⟩) ?_ ?_
    rotate_left
    ·intro w'
     go_simp
     with_reducible rfl
    rotate_left
    ·simp only [Act.put, List.setIfInBounds_toArray, List.set_cons_zero, List.set_cons_succ, i64_w, i32_w]
     rfl
    refine take_ (i := 1) (N := some 22) (v := ?_) (a' := ?_) #[true, true, false, false, true, false, false, false, false, true, false, false] rfl rfl (take_ofW HT_.out HW_.out (by kernel_rfl)) (fun _ _ _ h => h) (Or.inl ⟨by rfl, ?_⟩) hHeld ?_ ?_
    rotate_left
    ·rintro w' ⟨s0, s1⟩
     go_simp
     with_reducible rfl
    rotate_left
    ·simp only [Act.put, List.setIfInBounds_toArray, List.set_cons_zero, List.set_cons_succ, i64_w, i32_w]
     rfl
    refine take_ (i := 5) (N := some 26) (v := ?_) (a' := ?_) #[true, true, false, false, true, true, false, false, false, true, false, false] rfl rfl (take_ofW HT_.out HW_.out (by kernel_rfl)) (fun _ _ _ h => h) (Or.inl ⟨by rfl, ?_⟩) hHeld ?_ ?_
    rotate_left
    ·rintro w' ⟨s0, s1⟩
     go_simp
     with_reducible rfl
    rotate_left
    ·simp only [Act.put, List.setIfInBounds_toArray, List.set_cons_zero, List.set_cons_succ, i64_w, i32_w]
     rfl
    refine one_ (i := 2) (N := some 23) #[true, true, true, false, true, true, false, false, false, true, false, false] rfl rfl (one_of HT_.out (by kernel_rfl)) (by decide) (fun K hK => ?_)
    refine goes_ Try.func51 (by kernel_rfl) rfl #[.int .i64 a0_0] (by rfl) rfl rfl (by (try simp only [List.map_toArray, List.map_cons, List.map_nil]); first | done | rfl | (simp only [List.length_drop, List.length_take]; rfl)) ?_
    with_reducible refine (awardingbodyref01_Size.calls a0_0 t280 _ A12.out).mono ?_
    rintro e w' ⟨rfl, ⟨nd, rfl⟩⟩
    refine ⟨_, rfl, ?_⟩
    refine hK.out _ _ ⟨(blk_cell BK279.out 0).trans rfl, (blk_cell BK279.out 1).trans rfl⟩ (fun hHeld => ?_)
    clear hK K
    refine norm_ (a' := ?_) ?_ ?_
    rotate_left
    ·show Act.put _ (some 23) _ = _
     simp only [Act.put, List.setIfInBounds_toArray, List.set_cons_zero, List.set_cons_succ, i64_w, i32_w]
     rfl
    refine pure_ (i := 3) (N := some 24) (v := ?_) (a' := ?_) #[true, true, true, true, true, true, false, false, false, true, false, false] rfl rfl (any_of HT_.out (by kernel_rfl)) (fun _ _ _ h => h) (Or.inl ⟨by rfl, ?_⟩) ?_ ?_
    rotate_left
    ·intro w'
     go_simp
     with_reducible rfl
    rotate_left
    ·simp only [Act.put, List.setIfInBounds_toArray, List.set_cons_zero, List.set_cons_succ, i64_w, i32_w]
     rfl
    refine one_ (i := 6) (N := some 27) #[true, true, true, true, true, true, true, false, false, true, false, false] rfl rfl (one_of HT_.out (by kernel_rfl)) (by decide) (fun K hK => ?_)
    refine goes_ Try.func51 (by kernel_rfl) rfl #[.int .i64 a0_1] (by rfl) rfl rfl (by (try simp only [List.map_toArray, List.map_cons, List.map_nil]); first | done | rfl | (simp only [List.length_drop, List.length_take]; rfl)) ?_
    with_reducible refine (awardingbodyref01_Size.calls a0_1 t281 _ A13.out).mono ?_
    rintro e w' ⟨rfl, ⟨nd, rfl⟩⟩
    refine ⟨_, rfl, ?_⟩
    refine hK.out _ _ ⟨(blk_cell BK279.out 0).trans rfl, (blk_cell BK279.out 1).trans rfl⟩ (fun hHeld => ?_)
    clear hK K
    refine norm_ (a' := ?_) ?_ ?_
    rotate_left
    ·show Act.put _ (some 27) _ = _
     simp only [Act.put, List.setIfInBounds_toArray, List.set_cons_zero, List.set_cons_succ, i64_w, i32_w]
     rfl
    refine pure_ (i := 7) (N := some 28) (v := ?_) (a' := ?_) #[true, true, true, true, true, true, true, true, false, true, false, false] rfl rfl (any_of HT_.out (by kernel_rfl)) (fun _ _ _ h => h) (Or.inl ⟨by rfl, ?_⟩) ?_ ?_
    rotate_left
    ·intro w'
     go_simp
     with_reducible rfl
    rotate_left
    ·simp only [Act.put, List.setIfInBounds_toArray, List.set_cons_zero, List.set_cons_succ, i64_w, i32_w]
     rfl
    refine one_ (i := 8) (N := some 29) #[true, true, true, true, true, true, true, true, true, true, false, false] rfl rfl (one_of HT_.out (by kernel_rfl)) (by decide) (fun K hK => ?_)
    refine goes_ Try.func53 (by kernel_rfl) rfl #[.agg #[.int .u64 0, .int .u64 t280], .agg #[.int .u64 0, .int .u64 t281]] (by rfl) rfl rfl (by (try simp only [List.map_toArray, List.map_cons, List.map_nil]); first | done | rfl | (simp only [List.length_drop, List.length_take]; rfl)) ?_
    with_reducible refine (awardingbodyref01_Divisor.calls kj1 0 t280 0 t281 t282 t283 _ A14.out).mono ?_
    rintro e w16 ⟨rfl, hb⟩
    refine ⟨_, rfl, ?_⟩
    have n0_ := kb BK279 hb
    have n1_ := wb HB hb
    clear BK279
    clear HB
    have BK279 := n0_
    have HB := n1_
    clear n0_ n1_
    (try clear hb)
    (try clear hb2)
    (try clear hk)
    (try clear hi)
    refine hK.out _ _ ⟨(blk_cell BK279.out 0).trans rfl, (blk_cell BK279.out 1).trans rfl⟩ (fun hHeld => ?_)
    clear hK K
    refine norm_ (a' := ?_) ?_ ?_
    rotate_left
    ·show Act.put _ (some 29) _ = _
     simp only [Act.put, List.setIfInBounds_toArray, List.set_cons_zero, List.set_cons_succ, i64_w, i32_w]
     rfl
    refine pure_ (i := 10) (N := some 31) (v := ?_) (a' := ?_) #[true, true, true, true, true, true, true, true, true, true, true, false] rfl rfl (any_of HT_.out (by kernel_rfl)) (fun _ _ _ h => h) (Or.inl ⟨by rfl, ?_⟩) ?_ ?_
    rotate_left
    ·intro w'
     go_simp
     with_reducible rfl
    rotate_left
    ·simp only [Act.put, List.setIfInBounds_toArray, List.set_cons_zero, List.set_cons_succ, i64_w, i32_w]
     rfl
    refine pure_ (i := 11) (N := some 2) (v := ?_) (a' := ?_) #[true, true, true, true, true, true, true, true, true, true, true, true] rfl rfl (any_of HT_.out (by kernel_rfl)) (fun _ _ _ h => h) (Or.inl ⟨by rfl, ?_⟩) ?_ ?_
    rotate_left
    ·intro w'
     go_simp
     with_reducible rfl
    rotate_left
    ·simp only [Act.put, List.setIfInBounds_toArray, List.set_cons_zero, List.set_cons_succ, i64_w, i32_w]
     rfl
    refine done_ (done_of HT_.out (by kernel_rfl)) ?_
    try go_wp2
    go_ret
    exact ⟨by first | rfl | (simp [errW_none, errW_some] <;> rfl) | (simp [*, errW_none, errW_some] <;> rfl), bw HB⟩

end Go.Proofs.Ytcbohbeipgcfhaa.G

-- Printed by gp.py (a program of this session's own, over the kit's printer) out of the translation; Lean checks it.
namespace Go.Proofs.Ytcbohbeipgcfhaa.G
open Go.Proofs.Ytcbohbeipgcfhaa.Given Go.Proofs.Ytcbohbeipgcfhaa.Short
open Go.RowKit Go.Proofs.YtcbohbeipgcfhaaW.PrintWords Go.Proofs.YtcbohbeipgcfhaaW.PrintLast Go.Proofs.YtcbohbeipgcfhaaW.PrintMore
attribute [local go_sem] max2_int min2_int max_two min_two max_three min_three max_four min_four   -- for this text's walks alone
set_option linter.unusedVariables false
set_option linter.unusedSimpArgs false

/-! ### awardingbodyref01_Product: function 58 -/
def awardingbodyref01_Product.f (a0 : Int) (a1 : Int) : Option (Int × Int) := (bits_Mul64.f a0 a1).bind fun bt368 => (some (bt368.1, bt368.2))
set_option maxHeartbeats 8000000 in
set_option maxRecDepth 100000 in
theorem awardingbodyref01_Product.calls (a0 : Int) (a1 : Int) (r1 : Int) (r2 : Int) (w : World) (h : awardingbodyref01_Product.f a0 a1 = some (r1, r2)) :
  Calls Try.prog 58 #[.int .u64 a0, .int .u64 a1] w fun e w' => e = .returned (.agg #[.int .u64 r1, .int .u64 r2]) ∧ Below w.heap.size w w' := by
 have hu61 := Try.underlying61
 have HB := Aside0.mk (Below.refl w.heap.size w)
 have H : ((bits_Mul64.f a0 a1).bind fun bt368 => (some (bt368.1, bt368.2))) = some (r1, r2) := h
 clear h
 replace H := Option.bind_eq_some_iff.mp H
 obtain ⟨⟨t368, t369⟩, A30, H⟩ := H
 replace H : (some (t368, t369)) = some (r1, r2) := H
 have A3 := Aside0.mk A30
 clear A30
 simp only [Option.some.injEq, Prod.mk.injEq] at H
 obtain ⟨rfl, rfl⟩ := H
 go_enter Try.func58, Try.ntmps58
 go_wp2_with (first | ((with_reducible refine gate_dst (N := 4) rfl ?_); refine box_event ?hg (N := 4) ?hd (cs := #[.int .u64 0, .int .u64 0]) (t := 61) ?hr ?_; (case hd => rfl); (case hg => rfl); (case hr => first | (go_simp; done) | (go_simp; rfl)); intro gb367 hg w4 hbox hb; have BK367 := Aside0.mk (hbox); have GW367 := gs HB hg; have GE367 := gs HB hg; replace HB := wb HB hb; clear hb hbox hg) | ((with_reducible refine gate_callee (f := 57) rfl ?_); refine goesL_ (some 10) rfl rfl Try.func57 (by kernel_rfl) rfl #[.int .u64 a0, .int .u64 a1] rfl (by (try simp only [List.map_toArray, List.map_cons, List.map_nil]); first | done | rfl | (simp only [List.length_drop, List.length_take]; rfl)) ?_; (with_reducible refine (bits_Mul64.calls a0 a1 t368 t369 _ A3.out).mono ?_); rintro e w' ⟨rfl, ⟨nd, rfl⟩⟩; refine ⟨_, rfl, ?_⟩; (try (rw [drewN_self w4]; generalize hq_ : World.drewN w4 _ = w4; replace BK367 : Aside0 (w4.heap[gb367]? = some (.cells #[.int .u64 0, .int .u64 0] 61 (0, 0))) := ⟨by rw [← hq_]; exact (bq BK367)⟩; replace HB : Aside0 (Below w.heap.size w w4) := ⟨by rw [← hq_]; exact (bw HB)⟩; clear hq_)); have hcz5_0 : w4.cell? ⟨gb367, 0, none⟩ = some (.int .u64 0) := (blk_cell BK367.out 0).trans rfl; have hcz5_1 : w4.cell? ⟨gb367, 1, none⟩ = some (.int .u64 0) := (blk_cell BK367.out 1).trans rfl; have hfz5_0 := blk_frozen BK367.out 0; have hfz5_1 := blk_frozen BK367.out 1))
 refine bodyPost_ret (results_cell_row rfl _ _ gb367 61 #[.int .u64 t368, .int .u64 t369] (0, 0) _ rfl (by refine pe ?_; refine blk_put (cs := #[.int .u64 t368, .int .u64 0]) ?_ 1 _ rfl; refine pe ?_; refine blk_put (cs := #[.int .u64 0, .int .u64 0]) ?_ 0 _ rfl; refine pe ?_; exact BK367.out) Try.underlying61 rfl (by kernel_rfl)) rfl ?_
 exact ⟨by first | rfl | (simp [errW_none, errW_some] <;> rfl) | (simp [*, errW_none, errW_some] <;> rfl), bw HB⟩

end Go.Proofs.Ytcbohbeipgcfhaa.G

-- Printed by gp.py (a program of this session's own, over the kit's printer) out of the translation; Lean checks it.
namespace Go.Proofs.Ytcbohbeipgcfhaa.G
open Go.Proofs.Ytcbohbeipgcfhaa.Given Go.Proofs.Ytcbohbeipgcfhaa.Short
open Go.RowKit Go.Proofs.YtcbohbeipgcfhaaW.PrintWords Go.Proofs.YtcbohbeipgcfhaaW.PrintLast Go.Proofs.YtcbohbeipgcfhaaW.PrintMore
attribute [local go_sem] max2_int min2_int max_two min_two max_three min_three max_four min_four   -- for this text's walks alone
set_option linter.unusedVariables false
set_option linter.unusedSimpArgs false

/-! ### awardingbodyref01_Plus: function 69 -/
def awardingbodyref01_Plus.f (a0_0 : Int) (a0_1 : Int) (a1_0 : Int) (a1_1 : Int) : Option (Int × Int) := (bits_Add64.f a0_1 a1_1 0).bind fun bt461 => ((bits_Add64.f a0_0 a1_0 bt461.2).bind fun bt463 => (some (bt463.1, bt461.1)))
set_option maxHeartbeats 8000000 in
set_option maxRecDepth 100000 in
theorem awardingbodyref01_Plus.calls (a0_0 : Int) (a0_1 : Int) (a1_0 : Int) (a1_1 : Int) (r1 : Int) (r2 : Int) (w : World) (h : awardingbodyref01_Plus.f a0_0 a0_1 a1_0 a1_1 = some (r1, r2)) :
  Calls Try.prog 69 #[.agg #[.int .u64 a0_0, .int .u64 a0_1], .agg #[.int .u64 a1_0, .int .u64 a1_1]] w fun e w' => e = .returned (.agg #[.int .u64 r1, .int .u64 r2]) ∧ Below w.heap.size w w' := by
 have hu61 := Try.underlying61
 have HB := Aside0.mk (Below.refl w.heap.size w)
 have H : ((bits_Add64.f a0_1 a1_1 0).bind fun bt461 => ((bits_Add64.f a0_0 a1_0 bt461.2).bind fun bt463 => (some (bt463.1, bt461.1)))) = some (r1, r2) := h
 clear h
 replace H := Option.bind_eq_some_iff.mp H
 obtain ⟨⟨t461, t462⟩, A30, H⟩ := H
 replace H : ((bits_Add64.f a0_0 a1_0 t462).bind fun bt463 => (some (bt463.1, t461))) = some (r1, r2) := H
 have A3 := Aside0.mk A30
 clear A30
 replace H := Option.bind_eq_some_iff.mp H
 obtain ⟨⟨t463, t464⟩, A40, H⟩ := H
 replace H : (some (t463, t461)) = some (r1, r2) := H
 have A4 := Aside0.mk A40
 clear A40
 simp only [Option.some.injEq, Prod.mk.injEq] at H
 obtain ⟨rfl, rfl⟩ := H
 go_enter Try.func69, Try.ntmps69
 go_wp2_with (first | ((with_reducible refine gate_dst (N := 2) rfl ?_); refine box_event ?hg (N := 2) ?hd (cs := #[.int .u64 a0_0, .int .u64 a0_1]) (t := 61) ?hr ?_; (case hd => rfl); (case hg => rfl); (case hr => first | (go_simp; done) | (go_simp; rfl)); intro gb458 hg w5 hbox hb; have BK458 := Aside0.mk (hbox); have GW458 := gs HB hg; have GE458 := gs HB hg; replace HB := wb HB hb; clear hb hbox hg) | ((with_reducible refine gate_dst (N := 3) rfl ?_); refine box_event ?hg (N := 3) ?hd (cs := #[.int .u64 a1_0, .int .u64 a1_1]) (t := 61) ?hr ?_; (case hd => rfl); (case hg => rfl); (case hr => first | (go_simp; done) | (go_simp; rfl)); intro gb459 hg w6 hbox hb; have BK459 := Aside0.mk (hbox); have GW459 := gs HB hg; have GE459 := gs HB hg; have NB458_459 := nl BK458 hg; have NB459_458 := nr BK458 hg; replace BK458 := kb BK458 hb; replace HB := wb HB hb; clear hb hbox hg) | ((with_reducible refine gate_dst (N := 4) rfl ?_); refine box_event ?hg (N := 4) ?hd (cs := #[.int .u64 0, .int .u64 0]) (t := 61) ?hr ?_; (case hd => rfl); (case hg => rfl); (case hr => first | (go_simp; done) | (go_simp; rfl)); intro gb460 hg w7 hbox hb; have BK460 := Aside0.mk (hbox); have GW460 := gs HB hg; have GE460 := gs HB hg; have NB458_460 := nl BK458 hg; have NB460_458 := nr BK458 hg; have NB459_460 := nl BK459 hg; have NB460_459 := nr BK459 hg; replace BK458 := kb BK458 hb; replace BK459 := kb BK459 hb; replace HB := wb HB hb; clear hb hbox hg; obtain ⟨hnb8, hnc8⟩ := n2 NB458_459; obtain ⟨hnb9, hnc9⟩ := n2 NB458_460; have hcz10_0 : w7.cell? ⟨gb458, 0, none⟩ = some (.int .u64 a0_0) := (blk_cell BK458.out 0).trans rfl; have hcz10_1 : w7.cell? ⟨gb458, 1, none⟩ = some (.int .u64 a0_1) := (blk_cell BK458.out 1).trans rfl; have hfz10_0 := blk_frozen BK458.out 0; have hfz10_1 := blk_frozen BK458.out 1; obtain ⟨hnb11, hnc11⟩ := n2 NB459_460; have hcz12_0 : w7.cell? ⟨gb459, 0, none⟩ = some (.int .u64 a1_0) := (blk_cell BK459.out 0).trans rfl; have hcz12_1 : w7.cell? ⟨gb459, 1, none⟩ = some (.int .u64 a1_1) := (blk_cell BK459.out 1).trans rfl; have hfz12_0 := blk_frozen BK459.out 0; have hfz12_1 := blk_frozen BK459.out 1) | ((with_reducible refine gate_callee (f := 73) rfl ?_); refine goesX_ (some 14) rfl rfl Try.func73 (by kernel_rfl) rfl #[.int .u64 a0_1, .int .u64 a1_1, .int .u64 0] rfl (by (try simp only [List.map_toArray, List.map_cons, List.map_nil]); first | done | rfl | (simp only [List.length_drop, List.length_take]; rfl)) ?_; (with_reducible refine (bits_Add64.calls a0_1 a1_1 0 t461 t462 _ A3.out).mono ?_); rintro e w13 ⟨rfl, hb⟩; refine ⟨_, rfl, ?_⟩; replace BK458 := kb BK458 hb; replace BK459 := kb BK459 hb; replace BK460 := kb BK460 hb; replace HB := wb HB hb; (try clear hb); (try clear hb2); (try clear hk); (try clear hi); have hcz14_0 : w13.cell? ⟨gb458, 0, none⟩ = some (.int .u64 a0_0) := (blk_cell BK458.out 0).trans rfl; have hcz14_1 : w13.cell? ⟨gb458, 1, none⟩ = some (.int .u64 a0_1) := (blk_cell BK458.out 1).trans rfl; have hfz14_0 := blk_frozen BK458.out 0; have hfz14_1 := blk_frozen BK458.out 1; have hcz15_0 : w13.cell? ⟨gb459, 0, none⟩ = some (.int .u64 a1_0) := (blk_cell BK459.out 0).trans rfl; have hcz15_1 : w13.cell? ⟨gb459, 1, none⟩ = some (.int .u64 a1_1) := (blk_cell BK459.out 1).trans rfl; have hfz15_0 := blk_frozen BK459.out 0; have hfz15_1 := blk_frozen BK459.out 1) | ((with_reducible refine gate_callee (f := 73) rfl ?_); refine goesX_ (some 23) rfl rfl Try.func73 (by kernel_rfl) rfl #[.int .u64 a0_0, .int .u64 a1_0, .int .u64 t462] rfl (by (try simp only [List.map_toArray, List.map_cons, List.map_nil]); first | done | rfl | (simp only [List.length_drop, List.length_take]; rfl)) ?_; (with_reducible refine (bits_Add64.calls a0_0 a1_0 t462 t463 t464 _ A4.out).mono ?_); rintro e w16 ⟨rfl, hb⟩; refine ⟨_, rfl, ?_⟩; replace BK458 := kb BK458 hb; replace BK459 := kb BK459 hb; replace BK460 := kb BK460 hb; replace HB := wb HB hb; (try clear hb); (try clear hb2); (try clear hk); (try clear hi); have hcz17_0 : w16.cell? ⟨gb460, 0, none⟩ = some (.int .u64 0) := (blk_cell BK460.out 0).trans rfl; have hcz17_1 : w16.cell? ⟨gb460, 1, none⟩ = some (.int .u64 0) := (blk_cell BK460.out 1).trans rfl; have hfz17_0 := blk_frozen BK460.out 0; have hfz17_1 := blk_frozen BK460.out 1))
 refine bodyPost_ret (results_cell_row rfl _ _ gb460 61 #[.int .u64 t463, .int .u64 t461] (0, 0) _ rfl (by refine pe ?_; refine blk_put (cs := #[.int .u64 t463, .int .u64 0]) ?_ 1 _ rfl; refine pe ?_; refine blk_put (cs := #[.int .u64 0, .int .u64 0]) ?_ 0 _ rfl; refine pe ?_; exact BK460.out) Try.underlying61 rfl (by kernel_rfl)) rfl ?_
 exact ⟨by first | rfl | (simp [errW_none, errW_some] <;> rfl) | (simp [*, errW_none, errW_some] <;> rfl), bw HB⟩

end Go.Proofs.Ytcbohbeipgcfhaa.G

-- Printed by gp.py (a program of this session's own, over the kit's printer) out of the translation; Lean checks it.
namespace Go.Proofs.Ytcbohbeipgcfhaa.G
open Go.Proofs.Ytcbohbeipgcfhaa.Given Go.Proofs.Ytcbohbeipgcfhaa.Short
open Go.RowKit Go.Proofs.YtcbohbeipgcfhaaW.PrintWords Go.Proofs.YtcbohbeipgcfhaaW.PrintLast Go.Proofs.YtcbohbeipgcfhaaW.PrintMore
attribute [local go_sem] max2_int min2_int max_two min_two max_three min_three max_four min_four   -- for this text's walks alone
set_option linter.unusedVariables false
set_option linter.unusedSimpArgs false

/-! ### awardingbodyref01_total: function 60 -/
def awardingbodyref01_total.f (k : Nat) (a0 : Bool) (a1_0 : Int) (a1_1 : Int) (a2 : Bool) (a3_0 : Int) (a3_1 : Int) : Option (Bool × Int × Int) := if (a0 == a2) = true then ((awardingbodyref01_Plus.f a1_0 a1_1 a3_0 a3_1).bind fun bt468 => (some (a0, bt468.1, bt468.2))) else ((awardingbodyref01_Order.f k a1_0 a1_1 a3_0 a3_1).bind fun t470 => (if t470 ≥ 0 then ((awardingbodyref01_Minus.f a1_0 a1_1 a3_0 a3_1).bind fun bt471 => (some (a0, bt471.1, bt471.2))) else ((awardingbodyref01_Minus.f a3_0 a3_1 a1_0 a1_1).bind fun bt473 => (some (a2, bt473.1, bt473.2)))))
theorem awardingbodyref01_total.mono : ∀ a0 a1 a2 a3 a4 a5 k, LeO (awardingbodyref01_total.f k a0 a1 a2 a3 a4 a5) (awardingbodyref01_total.f (k + 1) a0 a1 a2 a3 a4 a5) := by
 intro a0 a1 a2 a3 a4 a5 k
 unfold awardingbodyref01_total.f
 repeat' first
   | (with_reducible exact awardingbodyref01_Order.mono _ _ _ _ _)
   | (with_reducible exact LeO.refl _)
   | (with_reducible exact LeO.none _)
   | (with_reducible refine LeO.ite ?_ ?_)
   | (with_reducible refine LeO.bind ?_ (fun _ => ?_))
   | exact awardingbodyref01_Order.mono _ _ _ _ _
   | exact LeO.none _
   | refine LeO.ite ?_ ?_
   | refine LeO.bind ?_ (fun _ => ?_)
set_option maxHeartbeats 8000000 in
set_option maxRecDepth 100000 in
theorem awardingbodyref01_total.calls (k : Nat) (a0 : Bool) (a1_0 : Int) (a1_1 : Int) (a2 : Bool) (a3_0 : Int) (a3_1 : Int) (r1 : Bool) (r2 : Int) (r3 : Int) (w : World) (h : awardingbodyref01_total.f k a0 a1_0 a1_1 a2 a3_0 a3_1 = some (r1, r2, r3)) :
  Calls Try.prog 60 #[.bool a0, .agg #[.int .u64 a1_0, .int .u64 a1_1], .bool a2, .agg #[.int .u64 a3_0, .int .u64 a3_1]] w fun e w' => e = .returned (.tuple #[.bool r1, .agg #[.int .u64 r2, .int .u64 r3]]) ∧ Below w.heap.size w w' := by
 have hu61 := Try.underlying61
 have HB := Aside0.mk (Below.refl w.heap.size w)
 have H : (if (a0 == a2) = true then ((awardingbodyref01_Plus.f a1_0 a1_1 a3_0 a3_1).bind fun bt468 => (some (a0, bt468.1, bt468.2))) else ((awardingbodyref01_Order.f k a1_0 a1_1 a3_0 a3_1).bind fun t470 => (if t470 ≥ 0 then ((awardingbodyref01_Minus.f a1_0 a1_1 a3_0 a3_1).bind fun bt471 => (some (a0, bt471.1, bt471.2))) else ((awardingbodyref01_Minus.f a3_0 a3_1 a1_0 a1_1).bind fun bt473 => (some (a2, bt473.1, bt473.2)))))) = some (r1, r2, r3) := h
 clear h
 have HC5 := Aside0.mk H
 clear H
 go_enter Try.func60, Try.ntmps60
 go_upto_if 12 with (first | ((with_reducible refine gate_dst (N := 5) rfl ?_); refine box_event ?hg (N := 5) ?hd (cs := #[.int .u64 a1_0, .int .u64 a1_1]) (t := 61) ?hr ?_; (case hd => rfl); (case hg => rfl); (case hr => first | (go_simp; done) | (go_simp; rfl)); intro gb465 hg w6 hbox hb; have BK465 := Aside0.mk (hbox); have GW465 := gs HB hg; have GE465 := gs HB hg; replace HB := wb HB hb; clear hb hbox hg) | ((with_reducible refine gate_dst (N := 7) rfl ?_); refine box_event ?hg (N := 7) ?hd (cs := #[.int .u64 a3_0, .int .u64 a3_1]) (t := 61) ?hr ?_; (case hd => rfl); (case hg => rfl); (case hr => first | (go_simp; done) | (go_simp; rfl)); intro gb466 hg w7 hbox hb; have BK466 := Aside0.mk (hbox); have GW466 := gs HB hg; have GE466 := gs HB hg; have NB465_466 := nl BK465 hg; have NB466_465 := nr BK465 hg; replace BK465 := kb BK465 hb; replace HB := wb HB hb; clear hb hbox hg) | ((with_reducible refine gate_dst (N := 9) rfl ?_); refine box_event ?hg (N := 9) ?hd (cs := #[.int .u64 0, .int .u64 0]) (t := 61) ?hr ?_; (case hd => rfl); (case hg => rfl); (case hr => first | (go_simp; done) | (go_simp; rfl)); intro gb467 hg w8 hbox hb; have BK467 := Aside0.mk (hbox); have GW467 := gs HB hg; have GE467 := gs HB hg; have NB465_467 := nl BK465 hg; have NB467_465 := nr BK465 hg; have NB466_467 := nl BK466 hg; have NB467_466 := nr BK466 hg; replace BK465 := kb BK465 hb; replace BK466 := kb BK466 hb; replace HB := wb HB hb; clear hb hbox hg))
 (try simp only [Act.put, List.setIfInBounds_toArray, List.set_cons_zero, List.set_cons_succ])
 have H := HC5.out
 clear HC5
 by_cases c9 : (a0 == a2) = true
 ·rw [if_pos c9] at H
  have c9b0 : (a0 == a2) = true := c9
  (try (have c9b1 : decide (a0 = a2) = true := by simpa using c9))
  (try (have c9b2 : (a0 == a2) = true := by simpa using c9))
  clear c9
  (first | rw [c9b0] | (simp only [i64_w, i32_w]; rw [c9b0]) | skip)
  replace H := Option.bind_eq_some_iff.mp H
  obtain ⟨⟨t468, t469⟩, A100, H⟩ := H
  replace H : (some (a0, t468, t469)) = some (r1, r2, r3) := H
  have A10 := Aside0.mk A100
  clear A100
  simp only [Option.some.injEq, Prod.mk.injEq] at H
  obtain ⟨rfl, rfl, rfl⟩ := H
  obtain ⟨hnb11, hnc11⟩ := n2 NB465_466
  obtain ⟨hnb12, hnc12⟩ := n2 NB465_467
  have hcz13_0 : w8.cell? ⟨gb465, 0, none⟩ = some (.int .u64 a1_0) := (blk_cell BK465.out 0).trans rfl
  have hcz13_1 : w8.cell? ⟨gb465, 1, none⟩ = some (.int .u64 a1_1) := (blk_cell BK465.out 1).trans rfl
  have hfz13_0 := blk_frozen BK465.out 0
  have hfz13_1 := blk_frozen BK465.out 1
  obtain ⟨hnb14, hnc14⟩ := n2 NB466_467
  have hcz15_0 : w8.cell? ⟨gb466, 0, none⟩ = some (.int .u64 a3_0) := (blk_cell BK466.out 0).trans rfl
  have hcz15_1 : w8.cell? ⟨gb466, 1, none⟩ = some (.int .u64 a3_1) := (blk_cell BK466.out 1).trans rfl
  have hfz15_0 := blk_frozen BK466.out 0
  have hfz15_1 := blk_frozen BK466.out 1
  go_wp2_with (first | ((with_reducible refine gate_callee (f := 69) rfl ?_); refine goesL_ (some 16) rfl rfl Try.func69 (by kernel_rfl) rfl #[.agg #[.int .u64 a1_0, .int .u64 a1_1], .agg #[.int .u64 a3_0, .int .u64 a3_1]] rfl (by (try simp only [List.map_toArray, List.map_cons, List.map_nil]); first | done | rfl | (simp only [List.length_drop, List.length_take]; rfl)) ?_; (with_reducible refine (awardingbodyref01_Plus.calls a1_0 a1_1 a3_0 a3_1 t468 t469 _ A10.out).mono ?_); rintro e w16 ⟨rfl, hb⟩; refine ⟨_, rfl, ?_⟩; replace BK465 := kb BK465 hb; replace BK466 := kb BK466 hb; replace BK467 := kb BK467 hb; replace HB := wb HB hb; (try clear hb); (try clear hb2); (try clear hk); (try clear hi); have hcz17_0 : w16.cell? ⟨gb467, 0, none⟩ = some (.int .u64 0) := (blk_cell BK467.out 0).trans rfl; have hcz17_1 : w16.cell? ⟨gb467, 1, none⟩ = some (.int .u64 0) := (blk_cell BK467.out 1).trans rfl; have hfz17_0 := blk_frozen BK467.out 0; have hfz17_1 := blk_frozen BK467.out 1))
  refine bodyPost_ret (results_tc rfl _ _ gb467 61 #[.int .u64 t468, .int .u64 t469] (0, 0) _ rfl (by refine pe ?_; refine blk_put (cs := #[.int .u64 t468, .int .u64 0]) ?_ 1 _ rfl; refine pe ?_; refine blk_put (cs := #[.int .u64 0, .int .u64 0]) ?_ 0 _ rfl; refine pe ?_; exact BK467.out) Try.underlying61 rfl (by kernel_rfl)) rfl ?_
  exact ⟨by first | rfl | (simp [errW_none, errW_some] <;> rfl) | (simp [*, errW_none, errW_some] <;> rfl), bw HB⟩
 ·rw [if_neg c9] at H
  have c9b0 : (a0 == a2) = false := by simpa using c9
  (try (have c9b1 : decide (a0 = a2) = false := by simpa using c9))
  (try (have c9b2 : (a0 == a2) = false := by simpa using c9))
  (try (have c9b3 : ¬ (a0 = a2) := by simpa using c9))
  clear c9
  (first | rw [c9b0] | (simp only [i64_w, i32_w]; rw [c9b0]) | skip)
  replace H := Option.bind_eq_some_iff.mp H
  obtain ⟨t470, A180, H⟩ := H
  replace H : (if t470 ≥ 0 then ((awardingbodyref01_Minus.f a1_0 a1_1 a3_0 a3_1).bind fun bt471 => (some (a0, bt471.1, bt471.2))) else ((awardingbodyref01_Minus.f a3_0 a3_1 a1_0 a1_1).bind fun bt473 => (some (a2, bt473.1, bt473.2)))) = some (r1, r2, r3) := H
  have A18 := Aside0.mk A180
  clear A180
  by_cases c19 : t470 ≥ 0
  ·rw [if_pos c19] at H
   have c19b0 : decide (0 ≤ t470) = true := decide_eq_true c19
   clear c19
   replace H := Option.bind_eq_some_iff.mp H
   obtain ⟨⟨t471, t472⟩, A200, H⟩ := H
   replace H : (some (a0, t471, t472)) = some (r1, r2, r3) := H
   have A20 := Aside0.mk A200
   clear A200
   simp only [Option.some.injEq, Prod.mk.injEq] at H
   obtain ⟨rfl, rfl, rfl⟩ := H
   obtain ⟨hnb21, hnc21⟩ := n2 NB465_466
   obtain ⟨hnb22, hnc22⟩ := n2 NB465_467
   have hcz23_0 : w8.cell? ⟨gb465, 0, none⟩ = some (.int .u64 a1_0) := (blk_cell BK465.out 0).trans rfl
   have hcz23_1 : w8.cell? ⟨gb465, 1, none⟩ = some (.int .u64 a1_1) := (blk_cell BK465.out 1).trans rfl
   have hfz23_0 := blk_frozen BK465.out 0
   have hfz23_1 := blk_frozen BK465.out 1
   obtain ⟨hnb24, hnc24⟩ := n2 NB466_467
   have hcz25_0 : w8.cell? ⟨gb466, 0, none⟩ = some (.int .u64 a3_0) := (blk_cell BK466.out 0).trans rfl
   have hcz25_1 : w8.cell? ⟨gb466, 1, none⟩ = some (.int .u64 a3_1) := (blk_cell BK466.out 1).trans rfl
   have hfz25_0 := blk_frozen BK466.out 0
   have hfz25_1 := blk_frozen BK466.out 1
   go_wp2_with (first | ((with_reducible refine gate_callee (f := 70) rfl ?_); refine goesL_ (some 19) rfl rfl Try.func70 (by kernel_rfl) rfl #[.agg #[.int .u64 a1_0, .int .u64 a1_1], .agg #[.int .u64 a3_0, .int .u64 a3_1]] rfl (by (try simp only [List.map_toArray, List.map_cons, List.map_nil]); first | done | rfl | (simp only [List.length_drop, List.length_take]; rfl)) ?_; (with_reducible refine (awardingbodyref01_Order.calls k a1_0 a1_1 a3_0 a3_1 t470 _ A18.out).mono ?_); rintro e w26 ⟨rfl, hb⟩; refine ⟨_, rfl, ?_⟩; replace BK465 := kb BK465 hb; replace BK466 := kb BK466 hb; replace BK467 := kb BK467 hb; replace HB := wb HB hb; (try clear hb); (try clear hb2); (try clear hk); (try clear hi); have hcz27_0 : w26.cell? ⟨gb465, 0, none⟩ = some (.int .u64 a1_0) := (blk_cell BK465.out 0).trans rfl; have hcz27_1 : w26.cell? ⟨gb465, 1, none⟩ = some (.int .u64 a1_1) := (blk_cell BK465.out 1).trans rfl; have hfz27_0 := blk_frozen BK465.out 0; have hfz27_1 := blk_frozen BK465.out 1; have hcz28_0 : w26.cell? ⟨gb466, 0, none⟩ = some (.int .u64 a3_0) := (blk_cell BK466.out 0).trans rfl; have hcz28_1 : w26.cell? ⟨gb466, 1, none⟩ = some (.int .u64 a3_1) := (blk_cell BK466.out 1).trans rfl; have hfz28_0 := blk_frozen BK466.out 0; have hfz28_1 := blk_frozen BK466.out 1) | ((with_reducible refine gate_callee (f := 71) rfl ?_); refine goesL_ (some 24) rfl rfl Try.func71 (by kernel_rfl) rfl #[.agg #[.int .u64 a1_0, .int .u64 a1_1], .agg #[.int .u64 a3_0, .int .u64 a3_1]] rfl (by (try simp only [List.map_toArray, List.map_cons, List.map_nil]); first | done | rfl | (simp only [List.length_drop, List.length_take]; rfl)) ?_; (with_reducible refine (awardingbodyref01_Minus.calls a1_0 a1_1 a3_0 a3_1 t471 t472 _ A20.out).mono ?_); rintro e w29 ⟨rfl, hb⟩; refine ⟨_, rfl, ?_⟩; replace BK465 := kb BK465 hb; replace BK466 := kb BK466 hb; replace BK467 := kb BK467 hb; replace HB := wb HB hb; (try clear hb); (try clear hb2); (try clear hk); (try clear hi); have hcz30_0 : w29.cell? ⟨gb467, 0, none⟩ = some (.int .u64 0) := (blk_cell BK467.out 0).trans rfl; have hcz30_1 : w29.cell? ⟨gb467, 1, none⟩ = some (.int .u64 0) := (blk_cell BK467.out 1).trans rfl; have hfz30_0 := blk_frozen BK467.out 0; have hfz30_1 := blk_frozen BK467.out 1))
   refine bodyPost_ret (results_tc rfl _ _ gb467 61 #[.int .u64 t471, .int .u64 t472] (0, 0) _ rfl (by refine pe ?_; refine blk_put (cs := #[.int .u64 t471, .int .u64 0]) ?_ 1 _ rfl; refine pe ?_; refine blk_put (cs := #[.int .u64 0, .int .u64 0]) ?_ 0 _ rfl; refine pe ?_; exact BK467.out) Try.underlying61 rfl (by kernel_rfl)) rfl ?_
   exact ⟨by first | rfl | (simp [errW_none, errW_some] <;> rfl) | (simp [*, errW_none, errW_some] <;> rfl), bw HB⟩
  ·rw [if_neg c19] at H
   have c19b0 : decide (0 ≤ t470) = false := decide_eq_false c19
   clear c19
   replace H := Option.bind_eq_some_iff.mp H
   obtain ⟨⟨t473, t474⟩, A310, H⟩ := H
   replace H : (some (a2, t473, t474)) = some (r1, r2, r3) := H
   have A31 := Aside0.mk A310
   clear A310
   simp only [Option.some.injEq, Prod.mk.injEq] at H
   obtain ⟨rfl, rfl, rfl⟩ := H
   obtain ⟨hnb32, hnc32⟩ := n2 NB465_466
   obtain ⟨hnb33, hnc33⟩ := n2 NB465_467
   have hcz34_0 : w8.cell? ⟨gb465, 0, none⟩ = some (.int .u64 a1_0) := (blk_cell BK465.out 0).trans rfl
   have hcz34_1 : w8.cell? ⟨gb465, 1, none⟩ = some (.int .u64 a1_1) := (blk_cell BK465.out 1).trans rfl
   have hfz34_0 := blk_frozen BK465.out 0
   have hfz34_1 := blk_frozen BK465.out 1
   obtain ⟨hnb35, hnc35⟩ := n2 NB466_467
   have hcz36_0 : w8.cell? ⟨gb466, 0, none⟩ = some (.int .u64 a3_0) := (blk_cell BK466.out 0).trans rfl
   have hcz36_1 : w8.cell? ⟨gb466, 1, none⟩ = some (.int .u64 a3_1) := (blk_cell BK466.out 1).trans rfl
   have hfz36_0 := blk_frozen BK466.out 0
   have hfz36_1 := blk_frozen BK466.out 1
   go_wp2_with (first | ((with_reducible refine gate_callee (f := 70) rfl ?_); refine goesL_ (some 19) rfl rfl Try.func70 (by kernel_rfl) rfl #[.agg #[.int .u64 a1_0, .int .u64 a1_1], .agg #[.int .u64 a3_0, .int .u64 a3_1]] rfl (by (try simp only [List.map_toArray, List.map_cons, List.map_nil]); first | done | rfl | (simp only [List.length_drop, List.length_take]; rfl)) ?_; (with_reducible refine (awardingbodyref01_Order.calls k a1_0 a1_1 a3_0 a3_1 t470 _ A18.out).mono ?_); rintro e w37 ⟨rfl, hb⟩; refine ⟨_, rfl, ?_⟩; replace BK465 := kb BK465 hb; replace BK466 := kb BK466 hb; replace BK467 := kb BK467 hb; replace HB := wb HB hb; (try clear hb); (try clear hb2); (try clear hk); (try clear hi); have hcz38_0 : w37.cell? ⟨gb466, 0, none⟩ = some (.int .u64 a3_0) := (blk_cell BK466.out 0).trans rfl; have hcz38_1 : w37.cell? ⟨gb466, 1, none⟩ = some (.int .u64 a3_1) := (blk_cell BK466.out 1).trans rfl; have hfz38_0 := blk_frozen BK466.out 0; have hfz38_1 := blk_frozen BK466.out 1; have hcz39_0 : w37.cell? ⟨gb465, 0, none⟩ = some (.int .u64 a1_0) := (blk_cell BK465.out 0).trans rfl; have hcz39_1 : w37.cell? ⟨gb465, 1, none⟩ = some (.int .u64 a1_1) := (blk_cell BK465.out 1).trans rfl; have hfz39_0 := blk_frozen BK465.out 0; have hfz39_1 := blk_frozen BK465.out 1) | ((with_reducible refine gate_callee (f := 71) rfl ?_); refine goesL_ (some 28) rfl rfl Try.func71 (by kernel_rfl) rfl #[.agg #[.int .u64 a3_0, .int .u64 a3_1], .agg #[.int .u64 a1_0, .int .u64 a1_1]] rfl (by (try simp only [List.map_toArray, List.map_cons, List.map_nil]); first | done | rfl | (simp only [List.length_drop, List.length_take]; rfl)) ?_; (with_reducible refine (awardingbodyref01_Minus.calls a3_0 a3_1 a1_0 a1_1 t473 t474 _ A31.out).mono ?_); rintro e w40 ⟨rfl, hb⟩; refine ⟨_, rfl, ?_⟩; replace BK465 := kb BK465 hb; replace BK466 := kb BK466 hb; replace BK467 := kb BK467 hb; replace HB := wb HB hb; (try clear hb); (try clear hb2); (try clear hk); (try clear hi); have hcz41_0 : w40.cell? ⟨gb467, 0, none⟩ = some (.int .u64 0) := (blk_cell BK467.out 0).trans rfl; have hcz41_1 : w40.cell? ⟨gb467, 1, none⟩ = some (.int .u64 0) := (blk_cell BK467.out 1).trans rfl; have hfz41_0 := blk_frozen BK467.out 0; have hfz41_1 := blk_frozen BK467.out 1))
   refine bodyPost_ret (results_tc rfl _ _ gb467 61 #[.int .u64 t473, .int .u64 t474] (0, 0) _ rfl (by refine pe ?_; refine blk_put (cs := #[.int .u64 t473, .int .u64 0]) ?_ 1 _ rfl; refine pe ?_; refine blk_put (cs := #[.int .u64 0, .int .u64 0]) ?_ 0 _ rfl; refine pe ?_; exact BK467.out) Try.underlying61 rfl (by kernel_rfl)) rfl ?_
   exact ⟨by first | rfl | (simp [errW_none, errW_some] <;> rfl) | (simp [*, errW_none, errW_some] <;> rfl), bw HB⟩

end Go.Proofs.Ytcbohbeipgcfhaa.G
