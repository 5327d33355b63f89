/- Texts of this claim laid together: Gf25, MathD. -/
import Derived.Test.YtcbohbeipgcfhaaShortC
import Derived.Test.YtcbohbeipgcfhaaG0
import Derived.Test.YtcbohbeipgcfhaaGe1
import Derived.Test.YtcbohbeipgcfhaaZSon5
import Derived.Test.YtcbohbeipgcfhaaZSon10
import Derived.Test.YtcbohbeipgcfhaaZSon2
import Derived.Test.YtcbohbeipgcfhaaZSon8
-- Printed by gp.py (a program of this session's own, over the kit's printer) out of the translation; Lean checks it.
namespace Go.Proofs.Ytcbohbeipgcfhaa.G
open Go.Proofs.Ytcbohbeipgcfhaa.Given Go.Proofs.Ytcbohbeipgcfhaa.Short
open Go.RowKit Go.Proofs.YtcbohbeipgcfhaaW.PrintWords Go.Proofs.YtcbohbeipgcfhaaW.PrintLast Go.Proofs.YtcbohbeipgcfhaaW.PrintMore
attribute [local go_sem] max2_int min2_int max_two min_two max_three min_three max_four min_four   -- for this text's walks alone
set_option linter.unusedVariables false
set_option linter.unusedSimpArgs false

attribute [local go_sem high] eqA61
/-! ### r1_Valid: function 25 -/
def r1_Valid.j0 : Nat → Bool → Int → Int → Option (Bool)
 | 0, _, _, _ => none
 | k + 1, x20, x280000, x280001 => if x20 = true then (some false) else ((r1_Size.f x280000).bind fun t280 => ((r1_Size.f x280001).bind fun t281 => ((r1_Divisor.f k 0 t280 0 t281).bind fun bt282 => (some (bt282.1 == 0 && (bt282.2 == 1))))))
def r1_Valid.f (k : Nat) (a0_0 : Int) (a0_1 : Int) : Option (Bool) := if a0_1 < 1 then (r1_Valid.j0 k true a0_0 a0_1) else (if a0_1 > 1152921504606846976 then (r1_Valid.j0 k true a0_0 a0_1) else (if a0_0 < (-1152921504606846976) then (r1_Valid.j0 k true a0_0 a0_1) else (r1_Valid.j0 k (decide (a0_0 > 1152921504606846976)) a0_0 a0_1)))
theorem r1_Valid.mono_l : ∀ k, (∀ y0 y1 y2, LeO (r1_Valid.j0 k y0 y1 y2) (r1_Valid.j0 (k + 1) y0 y1 y2))
 | 0 => fun _ _ _ r h => by simp [r1_Valid.j0] at h
 | k + 1 => by
  have ih0 := r1_Valid.mono_l k
  ·intro y0 y1 y2; unfold r1_Valid.j0
   repeat' first
   | (with_reducible exact ih0 _ _ _)
   | (with_reducible exact r1_Divisor.mono _ _ _ _ _)
   | (with_reducible exact LeO.refl _)
   | (with_reducible exact LeO.none _)
   | (with_reducible refine LeO.ite ?_ ?_)
   | (with_reducible refine LeO.bind ?_ (fun _ => ?_))
   | exact ih0 _ _ _
   | exact r1_Divisor.mono _ _ _ _ _
   | exact LeO.none _
   | refine LeO.ite ?_ ?_
   | refine LeO.bind ?_ (fun _ => ?_)
theorem r1_Valid.mono : ∀ a0 a1 k, LeO (r1_Valid.f k a0 a1) (r1_Valid.f (k + 1) a0 a1) := by
 intro a0 a1 k; have ih0 := r1_Valid.mono_l k; unfold r1_Valid.f
 repeat' first
   | (with_reducible exact ih0 _ _ _)
   | (with_reducible exact r1_Divisor.mono _ _ _ _ _)
   | (with_reducible exact LeO.refl _)
   | (with_reducible exact LeO.none _)
   | (with_reducible refine LeO.ite ?_ ?_)
   | (with_reducible refine LeO.bind ?_ (fun _ => ?_))
   | exact ih0 _ _ _
   | exact r1_Divisor.mono _ _ _ _ _
   | exact LeO.none _
   | refine LeO.ite ?_ ?_
   | refine LeO.bind ?_ (fun _ => ?_)
def r1_Valid.T3 : Bool × List (List Nat × List Nat) := (true, [([], []), ([0], [0]), ([1], [1]), ([2], [2]), ([], []), ([4], [4]), ([5, 2], [5]), ([6], [6]), ([3, 7, 6], [3, 7]), ([], []), ([8, 9], [8, 9]), ([10, 8, 0, 1, 2, 3, 4, 5, 6, 7, 8, 9, 10], [10])])
def r1_Valid.B3 : List Nat := [0, 1, 3, 7, 0, 16, 55, 119, 255, 0, 1023, 2047]
theorem r1_Valid.tab3 : rtab .any (opsOf Try.f25 3) = r1_Valid.T3 := by kernel_rfl
theorem r1_Valid.bits3 : waitsOk r1_Valid.T3.2 r1_Valid.B3 = true := by kernel_rfl
set_option maxHeartbeats 8000000 in
set_option maxRecDepth 100000 in
theorem r1_Valid.calls (k : Nat) (a0_0 : Int) (a0_1 : Int) (r : Bool) (w : World) (h : r1_Valid.f k a0_0 a0_1 = some r) :
  Calls Try.prog 25 #[.agg #[.int .i64 a0_0, .int .i64 a0_1]] w fun e w' => e = .returned (.bool r) ∧ Below w.heap.size w w' := by
 have hu35 := Try.underlying35; have hu61 := Try.underlying61; have HB := Aside0.mk (Below.refl w.heap.size w); have H : (if a0_1 < 1 then (r1_Valid.j0 k true a0_0 a0_1) else (if a0_1 > 1152921504606846976 then (r1_Valid.j0 k true a0_0 a0_1) else (if a0_0 < (-1152921504606846976) then (r1_Valid.j0 k true a0_0 a0_1) else (r1_Valid.j0 k (decide (a0_0 > 1152921504606846976)) a0_0 a0_1)))) = some r := h; clear h; have HC2 := Aside0.mk H; clear H; go_enter Try.func25, Try.ntmps25
 go_upto_region 1 with (first | ((with_reducible refine gate_dst (N := 1) rfl ?_); refine bx (N := 1) (cs := #[.int .i64 a0_0, .int .i64 a0_1]) (t := 35) ?_; intro gb279 hg w3 hbox hb; have BK279 := Aside0.mk (hbox); have GW279 := gs HB hg; have GE279 := gs HB hg; replace HB := wb HB hb; clear hb hbox hg))
 (try simp only [Act.put, List.setIfInBounds_toArray, List.set_cons_zero, List.set_cons_succ])
 go_cut [20] (fun v20 wc => ∃ (kq : Nat) (x20_1 : Bool), v20 = .bool x20_1 ∧ Aside0 (r1_Valid.j0 kq x20_1 a0_0 a0_1 = some r) ∧ Aside0 (kq ≤ k) ∧ Aside0 (wc.heap[gb279]? = some (.cells #[.int .i64 a0_0, .int .i64 a0_1] 35 (0, 0))) ∧ Aside0 (Below w.heap.size w wc))
 case first =>
  have H := HC2.out; clear HC2
  by_cases c4 : a0_1 < 1
  ·rw [if_pos c4] at H; have c4b0 : decide (a0_1 < 1) = true := decide_eq_true c4; clear c4
   (first | rw [c4b0] | (simp only [i64_w, i32_w]; rw [c4b0]) | skip)
   have H' := Aside0.mk H; clear H; have hcz5_0 : w3.cell? ⟨gb279, 0, none⟩ = some (.int .i64 a0_0) := bc BK279 0; have hcz5_1 : w3.cell? ⟨gb279, 1, none⟩ = some (.int .i64 a0_1) := bc BK279 1; have hfz5_0 := blk_frozen BK279.out 0; have hfz5_1 := blk_frozen BK279.out 1; go_wp2
   go_meet
   case rel => exact ⟨_, (true), (by first | rfl | (simp; done) | (simp [*]; done)), H', ⟨by first | omega | exact Nat.le_refl _⟩, ⟨bq BK279⟩, ⟨bw HB⟩⟩
  ·rw [if_neg c4] at H; have c4b0 : decide (a0_1 < 1) = false := decide_eq_false c4; clear c4
   (first | rw [c4b0] | (simp only [i64_w, i32_w]; rw [c4b0]) | skip)
   by_cases c6 : a0_1 > 1152921504606846976
   ·rw [if_pos c6] at H; have c6b0 : decide (1152921504606846976 < a0_1) = true := decide_eq_true c6; clear c6; have H' := Aside0.mk H; clear H; have hcz7_0 : w3.cell? ⟨gb279, 0, none⟩ = some (.int .i64 a0_0) := bc BK279 0; have hcz7_1 : w3.cell? ⟨gb279, 1, none⟩ = some (.int .i64 a0_1) := bc BK279 1; have hfz7_0 := blk_frozen BK279.out 0; have hfz7_1 := blk_frozen BK279.out 1; go_wp2
    go_meet
    case rel => exact ⟨_, (true), (by first | rfl | (simp; done) | (simp [*]; done)), H', ⟨by first | omega | exact Nat.le_refl _⟩, ⟨bq BK279⟩, ⟨bw HB⟩⟩
   ·rw [if_neg c6] at H; have c6b0 : decide (1152921504606846976 < a0_1) = false := decide_eq_false c6; clear c6
    by_cases c8 : a0_0 < (-1152921504606846976)
    ·rw [if_pos c8] at H; have c8b0 : decide (a0_0 < (-1152921504606846976)) = true := decide_eq_true c8; clear c8; have H' := Aside0.mk H; clear H; have hcz9_0 : w3.cell? ⟨gb279, 0, none⟩ = some (.int .i64 a0_0) := bc BK279 0; have hcz9_1 : w3.cell? ⟨gb279, 1, none⟩ = some (.int .i64 a0_1) := bc BK279 1; have hfz9_0 := blk_frozen BK279.out 0; have hfz9_1 := blk_frozen BK279.out 1; go_wp2
     go_meet
     case rel => exact ⟨_, (true), (by first | rfl | (simp; done) | (simp [*]; done)), H', ⟨by first | omega | exact Nat.le_refl _⟩, ⟨bq BK279⟩, ⟨bw HB⟩⟩
    ·rw [if_neg c8] at H; have c8b0 : decide (a0_0 < (-1152921504606846976)) = false := decide_eq_false c8; clear c8; have H' := Aside0.mk H; clear H; have hcz10_0 : w3.cell? ⟨gb279, 0, none⟩ = some (.int .i64 a0_0) := bc BK279 0; have hcz10_1 : w3.cell? ⟨gb279, 1, none⟩ = some (.int .i64 a0_1) := bc BK279 1; have hfz10_0 := blk_frozen BK279.out 0; have hfz10_1 := blk_frozen BK279.out 1; go_wp2
     go_meet
     case rel => exact ⟨_, (decide (a0_0 > 1152921504606846976)), (by first | rfl | (simp; done) | (simp [*]; done)), H', ⟨by first | omega | exact Nat.le_refl _⟩, ⟨bq BK279⟩, ⟨bw HB⟩⟩
 case rest =>
  clear HC2; (try clear c2); (try clear p2); (try clear c4); (try clear c4b0); (try clear c6); (try clear c6b0); (try clear c8); (try clear c8b0); (try clear hcz10_0); (try clear hcz10_1); (try clear hcz5_0); (try clear hcz5_1); (try clear hcz7_0); (try clear hcz7_1); (try clear hcz9_0); (try clear hcz9_1); (try clear hfz10_0); (try clear hfz10_1); (try clear hfz5_0); (try clear hfz5_1); (try clear hfz7_0); (try clear hfz7_1); (try clear hfz9_0); (try clear hfz9_1); obtain ⟨kq, x20_1, rfl, HA, HJ1, BK279, HB⟩ := hcut
  cases kq with
  | zero => exact absurd HA.out (by simp [r1_Valid.j0])
  | succ kj1 =>
   have H := HA.out; clear HA; simp only [r1_Valid.j0] at H
   by_cases c11 : x20_1 = true
   ·subst c11; (have H1 : (some false) = some r := by rw [if_pos rfl] at H; exact H); clear H; have H := H1; clear H1; obtain rfl := Option.some.inj H; (go_wp2); (go_ret); exact ⟨by first | rfl | (simp [errW_none, errW_some] <;> rfl) | (simp [*, errW_none, errW_some] <;> rfl), bw HB⟩
   ·replace c11 := Bool.eq_false_iff.mpr c11; subst c11; (have H1 : ((r1_Size.f a0_0).bind fun t280 => ((r1_Size.f a0_1).bind fun t281 => ((r1_Divisor.f kj1 0 t280 0 t281).bind fun bt282 => (some (bt282.1 == 0 && (bt282.2 == 1)))))) = some r := by rw [if_neg (show ¬ (false = true) by decide)] at H; exact H); clear H; have H := H1; clear H1; replace H := Option.bind_eq_some_iff.mp H; obtain ⟨t280, A120, H⟩ := H; (try dsimp only at H); have A12 := Aside0.mk A120; clear A120; replace H := Option.bind_eq_some_iff.mp H; obtain ⟨t281, A130, H⟩ := H; (try dsimp only at H); have A13 := Aside0.mk A130; clear A130; replace H := Option.bind_eq_some_iff.mp H; obtain ⟨⟨t282, t283⟩, A140, H⟩ := H; (try dsimp only at H); have A14 := Aside0.mk A140; clear A140; obtain rfl := Option.some.inj H; (try go_wp2); have n0_ := Aside0.mk (blk_drew BK279.out); have n1_ := Aside0.mk (below_drew1 HB.out); clear BK279; clear HB; have BK279 := n0_; have HB := n1_; clear n0_ n1_; refine start_ (n := 12) (S := fun w' => w'.cell? ⟨gb279, 0, none⟩ = some (.int .i64 a0_0) ∧ w'.cell? ⟨gb279, 1, none⟩ = some (.int .i64 a0_1)) (ds := []) #[false, false, false, false, false, false, false, false, false, false, false, false] (by kernel_rfl) rfl rfl ⟨bc BK279 0, bc BK279 1⟩ (fun hHeld => ?_); refine with_tabW r1_Valid.tab3 r1_Valid.bits3 (fun HT_ HW_ => ?_); (generalize wc.drew = w15 at BK279 HB hHeld ⊢); refine pure_ (i := 0) (N := some 21) (v := ?_) (a' := ?_) #[true, false, false, false, false, false, false, false, false, false, false, false] rfl rfl (any_of HT_.out (by kernel_rfl)) (fun _ _ _ h => h) (Or.inl ⟨by rfl, ?_⟩) ?_ ?_; rotate_left
    ·intro w'; (go_simp); with_reducible rfl
    rotate_left
    ·simp only [Act.put, List.setIfInBounds_toArray, List.set_cons_zero, List.set_cons_succ, i64_w, i32_w]; rfl
    refine pure_ (i := 4) (N := some 25) (v := ?_) (a' := ?_) #[true, false, false, false, true, false, false, false, false, false, false, false] rfl rfl (any_of HT_.out (by kernel_rfl)) (fun _ _ _ h => h) (Or.inl ⟨by rfl, ?_⟩) ?_ ?_; rotate_left
    ·intro w'; (go_simp); with_reducible rfl
    rotate_left
    ·simp only [Act.put, List.setIfInBounds_toArray, List.set_cons_zero, List.set_cons_succ, i64_w, i32_w]; rfl
    refine pure_ (i := 9) (N := some 30) (v := ?_) (a' := ?_) #[true, false, false, false, true, false, false, false, false, true, false, false] rfl rfl (any_of HT_.out (by kernel_rfl)) (fun _ _ _ h => h) (Or.inl ⟨by rfl, ?_⟩) ?_ ?_; rotate_left
    ·intro w'; (go_simp); with_reducible rfl
    rotate_left
    ·simp only [Act.put, List.setIfInBounds_toArray, List.set_cons_zero, List.set_cons_succ, i64_w, i32_w]; rfl
    refine take_ (i := 1) (N := some 22) (v := ?_) (a' := ?_) #[true, true, false, false, true, false, false, false, false, true, false, false] rfl rfl (take_ofW HT_.out HW_.out (by kernel_rfl)) (fun _ _ _ h => h) (Or.inl ⟨by rfl, ?_⟩) hHeld ?_ ?_; rotate_left
    ·rintro w' ⟨s0, s1⟩; (go_simp); with_reducible rfl
    rotate_left
    ·simp only [Act.put, List.setIfInBounds_toArray, List.set_cons_zero, List.set_cons_succ, i64_w, i32_w]; rfl
    refine take_ (i := 5) (N := some 26) (v := ?_) (a' := ?_) #[true, true, false, false, true, true, false, false, false, true, false, false] rfl rfl (take_ofW HT_.out HW_.out (by kernel_rfl)) (fun _ _ _ h => h) (Or.inl ⟨by rfl, ?_⟩) hHeld ?_ ?_; rotate_left
    ·rintro w' ⟨s0, s1⟩; (go_simp); with_reducible rfl
    rotate_left
    ·simp only [Act.put, List.setIfInBounds_toArray, List.set_cons_zero, List.set_cons_succ, i64_w, i32_w]; rfl
    refine one_ (i := 2) (N := some 23) #[true, true, true, false, true, true, false, false, false, true, false, false] rfl rfl (one_of HT_.out (by kernel_rfl)) (by decide) (fun K hK => ?_); refine gz Try.func51 #[.int .i64 a0_0] ?_; (with_reducible refine (r1_Size.calls a0_0 t280 _ A12.out).mono ?_); rintro e w' ⟨rfl, ⟨nd, rfl⟩⟩; refine ⟨_, rfl, ?_⟩; refine hK.out _ _ ⟨bc BK279 0, bc BK279 1⟩ (fun hHeld => ?_); clear hK K; refine norm_ (a' := ?_) ?_ ?_; rotate_left
    ·show Act.put _ (some 23) _ = _; simp only [Act.put, List.setIfInBounds_toArray, List.set_cons_zero, List.set_cons_succ, i64_w, i32_w]; rfl
    refine pure_ (i := 3) (N := some 24) (v := ?_) (a' := ?_) #[true, true, true, true, true, true, false, false, false, true, false, false] rfl rfl (any_of HT_.out (by kernel_rfl)) (fun _ _ _ h => h) (Or.inl ⟨by rfl, ?_⟩) ?_ ?_; rotate_left
    ·intro w'; (go_simp); with_reducible rfl
    rotate_left
    ·simp only [Act.put, List.setIfInBounds_toArray, List.set_cons_zero, List.set_cons_succ, i64_w, i32_w]; rfl
    refine one_ (i := 6) (N := some 27) #[true, true, true, true, true, true, true, false, false, true, false, false] rfl rfl (one_of HT_.out (by kernel_rfl)) (by decide) (fun K hK => ?_); refine gz Try.func51 #[.int .i64 a0_1] ?_; (with_reducible refine (r1_Size.calls a0_1 t281 _ A13.out).mono ?_); rintro e w' ⟨rfl, ⟨nd, rfl⟩⟩; refine ⟨_, rfl, ?_⟩; refine hK.out _ _ ⟨bc BK279 0, bc BK279 1⟩ (fun hHeld => ?_); clear hK K; refine norm_ (a' := ?_) ?_ ?_; rotate_left
    ·show Act.put _ (some 27) _ = _; simp only [Act.put, List.setIfInBounds_toArray, List.set_cons_zero, List.set_cons_succ, i64_w, i32_w]; rfl
    refine pure_ (i := 7) (N := some 28) (v := ?_) (a' := ?_) #[true, true, true, true, true, true, true, true, false, true, false, false] rfl rfl (any_of HT_.out (by kernel_rfl)) (fun _ _ _ h => h) (Or.inl ⟨by rfl, ?_⟩) ?_ ?_; rotate_left
    ·intro w'; (go_simp); with_reducible rfl
    rotate_left
    ·simp only [Act.put, List.setIfInBounds_toArray, List.set_cons_zero, List.set_cons_succ, i64_w, i32_w]; rfl
    refine one_ (i := 8) (N := some 29) #[true, true, true, true, true, true, true, true, true, true, false, false] rfl rfl (one_of HT_.out (by kernel_rfl)) (by decide) (fun K hK => ?_); refine gz Try.func53 #[.agg #[.int .u64 0, .int .u64 t280], .agg #[.int .u64 0, .int .u64 t281]] ?_; (with_reducible refine (r1_Divisor.calls kj1 0 t280 0 t281 t282 t283 _ A14.out).mono ?_); rintro e w16 ⟨rfl, hb⟩; refine ⟨_, rfl, ?_⟩; have n0_ := kb BK279 hb; have n1_ := wb HB hb; clear BK279; clear HB; have BK279 := n0_; have HB := n1_; clear n0_ n1_; (try clear hb); (try clear hb2); (try clear hk); (try clear hi); refine hK.out _ _ ⟨bc BK279 0, bc BK279 1⟩ (fun hHeld => ?_); clear hK K; refine norm_ (a' := ?_) ?_ ?_; rotate_left
    ·show Act.put _ (some 29) _ = _; simp only [Act.put, List.setIfInBounds_toArray, List.set_cons_zero, List.set_cons_succ, i64_w, i32_w]; rfl
    refine pure_ (i := 10) (N := some 31) (v := ?_) (a' := ?_) #[true, true, true, true, true, true, true, true, true, true, true, false] rfl rfl (any_of HT_.out (by kernel_rfl)) (fun _ _ _ h => h) (Or.inl ⟨by rfl, ?_⟩) ?_ ?_; rotate_left
    ·intro w'; (go_simp); with_reducible rfl
    rotate_left
    ·simp only [Act.put, List.setIfInBounds_toArray, List.set_cons_zero, List.set_cons_succ, i64_w, i32_w]; rfl
    refine pure_ (i := 11) (N := some 2) (v := ?_) (a' := ?_) #[true, true, true, true, true, true, true, true, true, true, true, true] rfl rfl (any_of HT_.out (by kernel_rfl)) (fun _ _ _ h => h) (Or.inl ⟨by rfl, ?_⟩) ?_ ?_; rotate_left
    ·intro w'; (go_simp); with_reducible rfl
    rotate_left
    ·simp only [Act.put, List.setIfInBounds_toArray, List.set_cons_zero, List.set_cons_succ, i64_w, i32_w]; rfl
    refine done_ (done_of HT_.out (by kernel_rfl)) ?_; (try go_wp2); (go_ret); exact ⟨by first | rfl | (simp [errW_none, errW_some] <;> rfl) | (simp [*, errW_none, errW_some] <;> rfl), bw HB⟩

end Go.Proofs.Ytcbohbeipgcfhaa.G

/- Reducing a fraction to lowest terms: the program's and the reference's functions come to one plain function ('red'); New and Valid of both sides are equal, for all numbers. -/
namespace Go.Proofs.Ytcbohbeipgcfhaa.Mth
open Go.RowKit Go.Proofs.Ytcbohbeipgcfhaa.G Go.Proofs.Ytcbohbeipgcfhaa.Given Go.Proofs.YtcbohbeipgcfhaaW.PrintWords Go.Proofs.YtcbohbeipgcfhaaW.PrintLast Go.Proofs.YtcbohbeipgcfhaaW.PrintMore
set_option linter.unusedVariables false

/-- an int of 64 bits -/
def I64 (a : Int) : Prop := -9223372036854775808 ≤ a ∧ a ≤ 9223372036854775807
theorem I64.of {a : Int} (h : (Lit.int .i64 a).wf = true) : I64 a := by
  simp only [Lit.wf, IntKind.min, IntKind.max, IntKind.signed, IntKind.bits, Bool.and_eq_true, decide_eq_true_eq, if_true] at h; unfold I64; omega

/-- The fraction n / d (d not 0) with a sign, in lowest terms, or the error. -/
def red (neg : Bool) (n d : Nat) : Int × Int × Int :=
  if n / Nat.gcd n d ≤ 1152921504606846976 ∧ d / Nat.gcd n d ≤ 1152921504606846976 then
    ((if neg then -((n / Nat.gcd n d : Nat) : Int) else ((n / Nat.gcd n d : Nat) : Int)), ((d / Nat.gcd n d : Nat) : Int), 0)
  else (0, 0, 6)

theorem reduce_ev (neg : Bool) (n d : Nat) (hn : n < 340282366920938463463374607431768211456) (hd : d < 340282366920938463463374607431768211456) (hd0 : 0 < d) :
    Ev (fun k => r1_Reduce.f k neg (hi n) (lo n) (hi d) (lo d)) (red neg n d) := by
  have hg0 : 0 < Nat.gcd n d := Nat.gcd_pos_of_pos_right _ hd0; have hgd : Nat.gcd n d ≤ d := Nat.gcd_le_right _ hd0; refine Ev.congr (fun k => by unfold r1_Reduce.f; rfl) ?_; refine Ev.bind (divisor_ev d n hn hd) ?_; refine Ev.bind (divide_ev n (Nat.gcd n d) hn (by omega) hg0) ?_; refine Ev.bind (divide_ev d (Nat.gcd n d) hd (by omega) hg0) ?_; have hX := Nat.div_le_self n (Nat.gcd n d); have hY := Nat.div_le_self d (Nat.gcd n d); unfold red; obtain ⟨X, hXe⟩ : ∃ X, n / Nat.gcd n d = X := ⟨_, rfl⟩; obtain ⟨Y, hYe⟩ : ∃ Y, d / Nat.gcd n d = Y := ⟨_, rfl⟩; rw [hXe] at hX; rw [hYe] at hY; simp only [hXe, hYe]
  have key : Ev (fun k => r1_Reduce.j0 k neg (decide (¬ (X ≤ 1152921504606846976 ∧ Y ≤ 1152921504606846976))) (hi X) (lo X) (hi Y) (lo Y)) (if X ≤ 1152921504606846976 ∧ Y ≤ 1152921504606846976 then ((if neg then -(X : Int) else (X : Int)), (Y : Int), (0 : Int)) else (0, 0, 6)) := by
    refine ev_some (fun k => ?_); simp only [r1_Reduce.j0, decide_eq_true_eq]
    by_cases h : X ≤ 1152921504606846976 ∧ Y ≤ 1152921504606846976
    · rw [if_neg (by simpa using h), if_pos h]
      (have e1 : wrap64 (lo X) = (X : Int) := by unfold wrap64 lo; omega); (have e2 : wrap64 (lo Y) = (Y : Int) := by unfold wrap64 lo; omega); (have e3 : wrap64 (-(X : Int)) = -(X : Int) := by unfold wrap64; omega); rw [e1, e2, e3]
      cases neg <;> rfl
    · rw [if_pos (by simpa using h), if_neg h]
  refine Ev.congr (fun k => ?_) key
  by_cases h1 : hi X > 0
  · rw [if_pos h1]; congr 1; symm; rw [decide_eq_true_eq]; unfold hi at h1; omega
  · rw [if_neg h1]
    by_cases h2 : hi Y > 0
    · rw [if_pos h2]; congr 1; symm; rw [decide_eq_true_eq]; unfold hi at h2; omega
    · rw [if_neg h2]
      by_cases h3 : lo X > 1152921504606846976
      · rw [if_pos h3]; congr 1; symm; rw [decide_eq_true_eq]; unfold lo at h3; omega
      · rw [if_neg h3]; congr 1; rw [decide_eq_decide]; unfold hi at h1 h2; unfold lo at h3 ⊢; omega

theorem over_ev (neg : Bool) (n g : Nat) (hn : n < 340282366920938463463374607431768211456) (hg : g < 18446744073709551616) (hg0 : 0 < g) :
    Ev (fun k => ratio_wide_over.f k neg (hi n) (lo n) g) (neg, hi (n / g), lo (n / g)) := by
  have hd := div64_ev ((n / 18446744073709551616) % g) (n % 18446744073709551616) g hg (Nat.mod_lt _ (by decide)) (Nat.mod_lt _ hg0)
  have e0 : n / g = n / 18446744073709551616 / g * 18446744073709551616 + ((n / 18446744073709551616) % g * 18446744073709551616 + n % 18446744073709551616) / g := by
    have h1 := Nat.div_add_mod n 18446744073709551616; have h2 := Nat.div_add_mod (n / 18446744073709551616) g
    have h3 : n = g * (n / 18446744073709551616 / g * 18446744073709551616) + ((n / 18446744073709551616) % g * 18446744073709551616 + n % 18446744073709551616) := by
      rw [← Nat.mul_assoc]; obtain ⟨A, hA⟩ : ∃ A, g * (n / 18446744073709551616 / g) = A := ⟨_, rfl⟩; obtain ⟨B, hB⟩ : ∃ B, n / 18446744073709551616 % g = B := ⟨_, rfl⟩; rw [hA, hB] at h2 ⊢; omega
    conv => lhs; rw [h3]
    rw [Nat.mul_add_div hg0]
  have hlt : ((n / 18446744073709551616) % g * 18446744073709551616 + n % 18446744073709551616) / g < 18446744073709551616 := by
    rw [Nat.div_lt_iff_lt_mul hg0]; have h1 := Nat.mod_lt (n / 18446744073709551616) hg0; have h2 := Nat.mod_lt n (show 0 < 18446744073709551616 by decide); have h3 : (n / 18446744073709551616 % g + 1) * 18446744073709551616 ≤ g * 18446744073709551616 := Nat.mul_le_mul_right _ h1; rw [Nat.mul_comm 18446744073709551616 g]; omega
  have hq : n / 18446744073709551616 / g ≤ n / 18446744073709551616 := Nat.div_le_self _ _; obtain ⟨A, hA⟩ : ∃ A, n / 18446744073709551616 / g = A := ⟨_, rfl⟩; obtain ⟨B, hB⟩ : ∃ B, ((n / 18446744073709551616) % g * 18446744073709551616 + n % 18446744073709551616) / g = B := ⟨_, rfl⟩; rw [hA, hB] at e0; rw [hB] at hlt hd; rw [hA] at hq; (have a1 : hi (n / g) = (A : Int) := by unfold hi; omega); (have a2 : lo (n / g) = (B : Int) := by unfold lo; omega); rw [a1, a2]; refine Ev.congr (f := fun k => (bits_Div64.f k ((n / 18446744073709551616 % g : Nat) : Int) ((n % 18446744073709551616 : Nat) : Int) (g : Int)).bind fun b => some (neg, (A : Int), b.1)) (fun k => ?_) ?_
  · unfold ratio_wide_over.f hi lo
    rw [if_neg (by omega)]; have e4 : Int.tmod (((n / 18446744073709551616 : Nat) : Int)) (g : Int) = ((n / 18446744073709551616 % g : Nat) : Int) := rfl; have e5 : Int.tdiv (((n / 18446744073709551616 : Nat) : Int)) (g : Int) = ((n / 18446744073709551616 / g : Nat) : Int) := rfl; rw [e4, e5, hA]; rw [show IntKind.u64.wrap (A : Int) = (A : Int) from by rw [wu]; omega]
  · obtain ⟨K, hK⟩ := hd
    refine ⟨K, fun k hk => ?_⟩; have hk2 := hK k hk; dsimp only at hk2 ⊢; rw [hk2]; rfl

theorem lowest_ev (neg : Bool) (n d : Nat) (hn : n < 340282366920938463463374607431768211456) (hd : d < 18446744073709551616) (hd0 : 0 < d) :
    Ev (fun k => ratio_lowest.f k neg (hi n) (lo n) d) (red neg n d) := by
  have hg0 : 0 < Nat.gcd n d := Nat.gcd_pos_of_pos_right _ hd0; have hgd : Nat.gcd n d ≤ d := Nat.gcd_le_right _ hd0; (have hrem : (n / 18446744073709551616) * 18446744073709551616 + n % 18446744073709551616 = n := by omega); refine Ev.congr (fun k => by unfold ratio_lowest.f; rfl) ?_; have r1 := rem64_ev (n / 18446744073709551616) (n % 18446744073709551616) d hd (Nat.mod_lt _ (by decide)) hd0; rw [hrem] at r1; refine Ev.bind r1 ?_; have r2 := gcd_ev (n % d) d; rw [show Nat.gcd d (n % d) = Nat.gcd n d from by rw [Nat.gcd_comm n d, Nat.gcd_rec d n, Nat.gcd_comm]] at r2; refine Ev.bind r2 ?_; refine Ev.bind (over_ev neg n (Nat.gcd n d) hn (by omega) hg0) ?_; have hX := Nat.div_le_self n (Nat.gcd n d); have hY := Nat.div_le_self d (Nat.gcd n d); have e5 : Int.tdiv (d : Int) ((Nat.gcd n d : Nat) : Int) = ((d / Nat.gcd n d : Nat) : Int) := rfl; unfold red; rw [e5]; obtain ⟨X, hXe⟩ : ∃ X, n / Nat.gcd n d = X := ⟨_, rfl⟩; obtain ⟨Y, hYe⟩ : ∃ Y, d / Nat.gcd n d = Y := ⟨_, rfl⟩; rw [hXe] at hX; rw [hYe] at hY; simp only [hXe, hYe]; rw [show IntKind.u64.wrap (Y : Int) = (Y : Int) from by rw [wu]; omega]
  have key : Ev (fun k => ratio_lowest.j0 k Y (decide (¬ (X ≤ 1152921504606846976 ∧ Y ≤ 1152921504606846976))) neg (hi X) (lo X)) (if X ≤ 1152921504606846976 ∧ Y ≤ 1152921504606846976 then ((if neg then -(X : Int) else (X : Int)), (Y : Int), (0 : Int)) else (0, 0, 6)) := by
    refine ev_some (fun k => ?_); simp only [ratio_lowest.j0, decide_eq_true_eq]
    by_cases h : X ≤ 1152921504606846976 ∧ Y ≤ 1152921504606846976
    · rw [if_neg (by simpa using h), if_pos h]
      (have e1 : wrap64 (lo X) = (X : Int) := by unfold wrap64 lo; omega); (have e2 : wrap64 (Y : Int) = (Y : Int) := by unfold wrap64; omega); (have e3 : wrap64 (-(X : Int)) = -(X : Int) := by unfold wrap64; omega); rw [e1, e2, e3]
      cases neg <;> rfl
    · rw [if_pos (by simpa using h), if_neg h]
  refine Ev.congr (fun k => ?_) key; rw [if_neg (by omega)]
  by_cases h1 : hi X = 0
  · rw [if_pos h1]
    by_cases h3 : lo X > 1152921504606846976
    · rw [if_pos h3]; congr 1; symm; rw [decide_eq_true_eq]; unfold lo at h3; omega
    · rw [if_neg h3]; congr 1; rw [decide_eq_decide]; unfold hi at h1; unfold lo at h3; omega
  · rw [if_neg h1]; congr 1; symm; rw [decide_eq_true_eq]; unfold hi at h1; omega

theorem abs_eq {a : Int} (h : I64 a) : ratio_abs.f a = some (a.natAbs : Int) := by
  unfold ratio_abs.f I64 at *
  split <;> simp only [Option.some.injEq, wu] <;> (try unfold wrap64) <;> omega
theorem size_eq {a : Int} (h : I64 a) : r1_Size.f a = some (a.natAbs : Int) := by
  unfold r1_Size.f I64 at *
  split <;> simp only [Option.some.injEq, wu] <;> (try unfold wrap64) <;> omega

/-- New's result -/
def newR (a b : Int) : Int × Int × Int := if b = 0 then (0, 0, 2) else red ((decide (a < 0)) != (decide (b < 0))) a.natAbs b.natAbs
theorem abs_lt {a : Int} (h : I64 a) : a.natAbs < 18446744073709551616 := by unfold I64 at h; omega
theorem hi_small {n : Nat} (h : n < 18446744073709551616) : hi n = 0 := by unfold hi; omega
theorem lo_small {n : Nat} (h : n < 18446744073709551616) : lo n = (n : Int) := by unfold lo; omega

theorem rnew_ev {a b : Int} (ha : I64 a) (hb : I64 b) : Ev (fun k => ratio_New.f k a b) (newR a b) := by
  unfold newR
  by_cases h : b = 0
  · rw [if_pos h]; refine Ev.congr (fun k => by unfold ratio_New.f; rw [if_pos h]) (Ev.now _)
  · rw [if_neg h]
    have := lowest_ev ((decide (a < 0)) != (decide (b < 0))) a.natAbs b.natAbs (by have := abs_lt ha; omega) (abs_lt hb) (by omega); rw [hi_small (abs_lt ha), lo_small (abs_lt ha)] at this; refine Ev.congr (fun k => ?_) (Ev.bind (f := fun _ (t : Int × Int × Int) => some (t.1, t.2.1, t.2.2)) this (Ev.now _)); unfold ratio_New.f; rw [if_neg h, abs_eq ha, abs_eq hb, Option.bind_some, Option.bind_some]
theorem fnew_ev {a b : Int} (ha : I64 a) (hb : I64 b) : Ev (fun k => r1_New.f k a b) (newR a b) := by
  unfold newR
  by_cases h : b = 0
  · rw [if_pos h]; refine Ev.congr (fun k => by unfold r1_New.f; rw [if_pos h]) (Ev.now _)
  · rw [if_neg h]
    have := reduce_ev ((decide (a < 0)) != (decide (b < 0))) a.natAbs b.natAbs (by have := abs_lt ha; omega) (by have := abs_lt hb; omega) (by omega); rw [hi_small (abs_lt ha), lo_small (abs_lt ha), hi_small (abs_lt hb), lo_small (abs_lt hb)] at this; refine Ev.congr (fun k => ?_) (Ev.bind (f := fun _ (t : Int × Int × Int) => some (t.1, t.2.1, t.2.2)) this (Ev.now _)); unfold r1_New.f; rw [if_neg h, size_eq ha, size_eq hb, Option.bind_some, Option.bind_some]

/-- which fractions are valid -/
def okR (a b : Int) : Prop := (1 ≤ b ∧ b ≤ 1152921504606846976 ∧ -1152921504606846976 ≤ a ∧ a ≤ 1152921504606846976) ∧ Nat.gcd a.natAbs b.natAbs = 1
instance (a b : Int) : Decidable (okR a b) := by unfold okR; infer_instance
theorem rvalid_ev (a b : Int) : Ev (fun k => ratio_Valid.f k a b) (decide (okR a b)) := by
  by_cases h : 1 ≤ b ∧ b ≤ 1152921504606846976 ∧ -1152921504606846976 ≤ a ∧ a ≤ 1152921504606846976
  · have e : decide (okR a b) = (((Nat.gcd a.natAbs b.natAbs : Nat) : Int) == 1) := by
      rw [Bool.eq_iff_iff, decide_eq_true_eq, beq_iff_eq]; unfold okR; omega
    rw [e]; (have ha : I64 a := by unfold I64; omega); refine Ev.congr (fun k => ?_) (Ev.bind (f := fun _ t => some (t == 1)) (gcd_ev b.natAbs a.natAbs) (Ev.now _)); unfold ratio_Valid.f; rw [if_pos h.1, if_pos h.2.1, if_pos h.2.2.1, if_pos h.2.2.2, abs_eq ha, Option.bind_some]; rw [show IntKind.u64.wrap b = (b.natAbs : Int) from by rw [wu]; omega]
  · have e : decide (okR a b) = false := by rw [decide_eq_false_iff_not]; unfold okR; exact fun c => h c.1
    rw [e]; refine Ev.congr (fun k => ?_) (Ev.now _); unfold ratio_Valid.f
    by_cases h1 : b ≥ 1
    · rw [if_pos h1]
      by_cases h2 : b ≤ 1152921504606846976
      · rw [if_pos h2]
        by_cases h3 : a ≥ -1152921504606846976
        · rw [if_pos h3, if_neg (fun h4 => h ⟨h1, h2, h3, h4⟩)]
        · rw [if_neg h3]
      · rw [if_neg h2]
    · rw [if_neg h1]
theorem fvalid_ev (a b : Int) : Ev (fun k => r1_Valid.f k a b) (decide (okR a b)) := by
  have hf : ¬ (1 ≤ b ∧ b ≤ 1152921504606846976 ∧ -1152921504606846976 ≤ a ∧ a ≤ 1152921504606846976) → Ev (fun k => r1_Valid.j0 k true a b) (decide (okR a b)) := by
    intro h; (have e : decide (okR a b) = false := by rw [decide_eq_false_iff_not]; unfold okR; exact fun c => h c.1); rw [e]; refine ev_some (fun k => ?_); simp only [r1_Valid.j0]; rw [if_pos trivial]
  have ht : (1 ≤ b ∧ b ≤ 1152921504606846976 ∧ -1152921504606846976 ≤ a ∧ a ≤ 1152921504606846976) → Ev (fun k => r1_Valid.j0 k false a b) (decide (okR a b)) := by
    intro h; (have ha : I64 a := by unfold I64; omega); (have hb : I64 b := by unfold I64; omega); have hd := divisor_ev b.natAbs a.natAbs (by have := abs_lt ha; omega) (by have := abs_lt hb; omega)
    have hg : Nat.gcd a.natAbs b.natAbs < 18446744073709551616 := by
      have := Nat.gcd_le_right a.natAbs (show 0 < b.natAbs by omega); omega
    rw [hi_small (abs_lt ha), lo_small (abs_lt ha), hi_small (abs_lt hb), lo_small (abs_lt hb), hi_small hg, lo_small hg] at hd
    have e : decide (okR a b) = (((0 : Int) == 0) && (((Nat.gcd a.natAbs b.natAbs : Nat) : Int) == 1)) := by
      rw [Bool.eq_iff_iff, decide_eq_true_eq]; unfold okR; simp; omega
    rw [e]; refine Ev.step (fun k => ?_) (Ev.bind (f := fun _ (t : Int × Int) => some (t.1 == 0 && (t.2 == 1))) hd (Ev.now _)); simp only [r1_Valid.j0]; rw [if_neg (by decide), size_eq ha, size_eq hb, Option.bind_some, Option.bind_some]
  by_cases h1 : b < 1
  · exact Ev.congr (fun k => by unfold r1_Valid.f; rw [if_pos h1]) (hf (by omega))
  · by_cases h2 : b > 1152921504606846976
    · exact Ev.congr (fun k => by unfold r1_Valid.f; rw [if_neg h1, if_pos h2]) (hf (by omega))
    · by_cases h3 : a < -1152921504606846976
      · exact Ev.congr (fun k => by unfold r1_Valid.f; rw [if_neg h1, if_neg h2, if_pos h3]) (hf (by omega))
      · by_cases h4 : a > 1152921504606846976
        · exact Ev.congr (fun k => by unfold r1_Valid.f; rw [if_neg h1, if_neg h2, if_neg h3, decide_eq_true h4]) (hf (by omega))
        · exact Ev.congr (fun k => by unfold r1_Valid.f; rw [if_neg h1, if_neg h2, if_neg h3, decide_eq_false h4]) (ht (by omega))
end Go.Proofs.Ytcbohbeipgcfhaa.Mth
