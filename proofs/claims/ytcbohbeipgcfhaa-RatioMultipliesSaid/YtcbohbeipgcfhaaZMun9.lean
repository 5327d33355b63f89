/- Texts of this claim laid together: Gf25, Gf58, Gf28, Gf29. -/
import Derived.Test.YtcbohbeipgcfhaaShortC
import Derived.Test.YtcbohbeipgcfhaaG0
import Derived.Test.YtcbohbeipgcfhaaGe1
import Derived.Test.YtcbohbeipgcfhaaZMun5
import Derived.Test.YtcbohbeipgcfhaaZMun7
import Derived.Test.YtcbohbeipgcfhaaZMun8
-- Printed by gp.py (a program of this session's own, over the kit's printer) out of the translation; Lean checks it.
namespace Go.Proofs.Ytcbohbeipgcfhaa.G
open Go.Proofs.Ytcbohbeipgcfhaa.Given Go.Proofs.Ytcbohbeipgcfhaa.Short
open Go.RowKit Go.Proofs.YtcbohbeipgcfhaaW.PrintWords Go.Proofs.YtcbohbeipgcfhaaW.PrintLast Go.Proofs.YtcbohbeipgcfhaaW.PrintMore
attribute [local go_sem] max2_int min2_int max_two min_two max_three min_three max_four min_four   -- for this text's walks alone
set_option linter.unusedVariables false
set_option linter.unusedSimpArgs false

attribute [local go_sem high] eqA61
/-! ### r1_Valid: function 25 -/
def r1_Valid.j0 : Nat → Bool → Int → Int → Option (Bool)
 | 0, _, _, _ => none
 | k + 1, x20, x280000, x280001 => if x20 = true then (some false) else ((r1_Size.f x280000).bind fun t280 => ((r1_Size.f x280001).bind fun t281 => ((r1_Divisor.f k 0 t280 0 t281).bind fun bt282 => (some (bt282.1 == 0 && (bt282.2 == 1))))))
def r1_Valid.f (k : Nat) (a0_0 : Int) (a0_1 : Int) : Option (Bool) := if a0_1 < 1 then (r1_Valid.j0 k true a0_0 a0_1) else (if a0_1 > 1152921504606846976 then (r1_Valid.j0 k true a0_0 a0_1) else (if a0_0 < (-1152921504606846976) then (r1_Valid.j0 k true a0_0 a0_1) else (r1_Valid.j0 k (decide (a0_0 > 1152921504606846976)) a0_0 a0_1)))
theorem r1_Valid.mono_l : ∀ k, (∀ y0 y1 y2, LeO (r1_Valid.j0 k y0 y1 y2) (r1_Valid.j0 (k + 1) y0 y1 y2))
 | 0 => fun _ _ _ r h => by simp [r1_Valid.j0] at h
 | k + 1 => by
  have ih0 := r1_Valid.mono_l k
  ·intro y0 y1 y2; unfold r1_Valid.j0
   repeat' first
   | (with_reducible exact ih0 _ _ _)
   | (with_reducible exact r1_Divisor.mono _ _ _ _ _)
   | (with_reducible exact LeO.refl _)
   | (with_reducible exact LeO.none _)
   | (with_reducible refine LeO.ite ?_ ?_)
   | (with_reducible refine LeO.bind ?_ (fun _ => ?_))
   | exact ih0 _ _ _
   | exact r1_Divisor.mono _ _ _ _ _
   | exact LeO.none _
   | refine LeO.ite ?_ ?_
   | refine LeO.bind ?_ (fun _ => ?_)
theorem r1_Valid.mono : ∀ a0 a1 k, LeO (r1_Valid.f k a0 a1) (r1_Valid.f (k + 1) a0 a1) := by
 intro a0 a1 k; have ih0 := r1_Valid.mono_l k; unfold r1_Valid.f
 repeat' first
   | (with_reducible exact ih0 _ _ _)
   | (with_reducible exact r1_Divisor.mono _ _ _ _ _)
   | (with_reducible exact LeO.refl _)
   | (with_reducible exact LeO.none _)
   | (with_reducible refine LeO.ite ?_ ?_)
   | (with_reducible refine LeO.bind ?_ (fun _ => ?_))
   | exact ih0 _ _ _
   | exact r1_Divisor.mono _ _ _ _ _
   | exact LeO.none _
   | refine LeO.ite ?_ ?_
   | refine LeO.bind ?_ (fun _ => ?_)
def r1_Valid.T3 : Bool × List (List Nat × List Nat) := (true, [([], []), ([0], [0]), ([1], [1]), ([2], [2]), ([], []), ([4], [4]), ([5, 2], [5]), ([6], [6]), ([3, 7, 6], [3, 7]), ([], []), ([8, 9], [8, 9]), ([10, 8, 0, 1, 2, 3, 4, 5, 6, 7, 8, 9, 10], [10])])
def r1_Valid.B3 : List Nat := [0, 1, 3, 7, 0, 16, 55, 119, 255, 0, 1023, 2047]
theorem r1_Valid.tab3 : rtab .any (opsOf Try.f25 3) = r1_Valid.T3 := by kernel_rfl
theorem r1_Valid.bits3 : waitsOk r1_Valid.T3.2 r1_Valid.B3 = true := by kernel_rfl
set_option maxHeartbeats 8000000 in
set_option maxRecDepth 100000 in
theorem r1_Valid.calls (k : Nat) (a0_0 : Int) (a0_1 : Int) (r : Bool) (w : World) (h : r1_Valid.f k a0_0 a0_1 = some r) :
  Calls Try.prog 25 #[.agg #[.int .i64 a0_0, .int .i64 a0_1]] w fun e w' => e = .returned (.bool r) ∧ Below w.heap.size w w' := by
 have hu35 := Try.underlying35; have hu61 := Try.underlying61; have HB := Aside0.mk (Below.refl w.heap.size w); have H : (if a0_1 < 1 then (r1_Valid.j0 k true a0_0 a0_1) else (if a0_1 > 1152921504606846976 then (r1_Valid.j0 k true a0_0 a0_1) else (if a0_0 < (-1152921504606846976) then (r1_Valid.j0 k true a0_0 a0_1) else (r1_Valid.j0 k (decide (a0_0 > 1152921504606846976)) a0_0 a0_1)))) = some r := h; clear h; have HC2 := Aside0.mk H; clear H; go_enter Try.func25, Try.ntmps25
 go_upto_region 1 with (first | ((with_reducible refine gate_dst (N := 1) rfl ?_); refine bx (N := 1) (cs := #[.int .i64 a0_0, .int .i64 a0_1]) (t := 35) ?_; intro gb279 hg w3 hbox hb; have BK279 := Aside0.mk (hbox); have GW279 := gs HB hg; have GE279 := gs HB hg; replace HB := wb HB hb; clear hb hbox hg))
 (try simp only [Act.put, List.setIfInBounds_toArray, List.set_cons_zero, List.set_cons_succ])
 go_cut [20] (fun v20 wc => ∃ (kq : Nat) (x20_1 : Bool), v20 = .bool x20_1 ∧ Aside0 (r1_Valid.j0 kq x20_1 a0_0 a0_1 = some r) ∧ Aside0 (kq ≤ k) ∧ Aside0 (wc.heap[gb279]? = some (.cells #[.int .i64 a0_0, .int .i64 a0_1] 35 (0, 0))) ∧ Aside0 (Below w.heap.size w wc))
 case first =>
  have H := HC2.out; clear HC2
  by_cases c4 : a0_1 < 1
  ·rw [if_pos c4] at H; have c4b0 : decide (a0_1 < 1) = true := decide_eq_true c4; clear c4
   (first | rw [c4b0] | (simp only [i64_w, i32_w]; rw [c4b0]) | skip)
   have H' := Aside0.mk H; clear H; have hcz5_0 : w3.cell? ⟨gb279, 0, none⟩ = some (.int .i64 a0_0) := bc BK279 0; have hcz5_1 : w3.cell? ⟨gb279, 1, none⟩ = some (.int .i64 a0_1) := bc BK279 1; have hfz5_0 := blk_frozen BK279.out 0; have hfz5_1 := blk_frozen BK279.out 1; go_wp2
   go_meet
   case rel => exact ⟨_, (true), (by first | rfl | (simp; done) | (simp [*]; done)), H', ⟨by first | omega | exact Nat.le_refl _⟩, ⟨bq BK279⟩, ⟨bw HB⟩⟩
  ·rw [if_neg c4] at H; have c4b0 : decide (a0_1 < 1) = false := decide_eq_false c4; clear c4
   (first | rw [c4b0] | (simp only [i64_w, i32_w]; rw [c4b0]) | skip)
   by_cases c6 : a0_1 > 1152921504606846976
   ·rw [if_pos c6] at H; have c6b0 : decide (1152921504606846976 < a0_1) = true := decide_eq_true c6; clear c6; have H' := Aside0.mk H; clear H; have hcz7_0 : w3.cell? ⟨gb279, 0, none⟩ = some (.int .i64 a0_0) := bc BK279 0; have hcz7_1 : w3.cell? ⟨gb279, 1, none⟩ = some (.int .i64 a0_1) := bc BK279 1; have hfz7_0 := blk_frozen BK279.out 0; have hfz7_1 := blk_frozen BK279.out 1; go_wp2
    go_meet
    case rel => exact ⟨_, (true), (by first | rfl | (simp; done) | (simp [*]; done)), H', ⟨by first | omega | exact Nat.le_refl _⟩, ⟨bq BK279⟩, ⟨bw HB⟩⟩
   ·rw [if_neg c6] at H; have c6b0 : decide (1152921504606846976 < a0_1) = false := decide_eq_false c6; clear c6
    by_cases c8 : a0_0 < (-1152921504606846976)
    ·rw [if_pos c8] at H; have c8b0 : decide (a0_0 < (-1152921504606846976)) = true := decide_eq_true c8; clear c8; have H' := Aside0.mk H; clear H; have hcz9_0 : w3.cell? ⟨gb279, 0, none⟩ = some (.int .i64 a0_0) := bc BK279 0; have hcz9_1 : w3.cell? ⟨gb279, 1, none⟩ = some (.int .i64 a0_1) := bc BK279 1; have hfz9_0 := blk_frozen BK279.out 0; have hfz9_1 := blk_frozen BK279.out 1; go_wp2
     go_meet
     case rel => exact ⟨_, (true), (by first | rfl | (simp; done) | (simp [*]; done)), H', ⟨by first | omega | exact Nat.le_refl _⟩, ⟨bq BK279⟩, ⟨bw HB⟩⟩
    ·rw [if_neg c8] at H; have c8b0 : decide (a0_0 < (-1152921504606846976)) = false := decide_eq_false c8; clear c8; have H' := Aside0.mk H; clear H; have hcz10_0 : w3.cell? ⟨gb279, 0, none⟩ = some (.int .i64 a0_0) := bc BK279 0; have hcz10_1 : w3.cell? ⟨gb279, 1, none⟩ = some (.int .i64 a0_1) := bc BK279 1; have hfz10_0 := blk_frozen BK279.out 0; have hfz10_1 := blk_frozen BK279.out 1; go_wp2
     go_meet
     case rel => exact ⟨_, (decide (a0_0 > 1152921504606846976)), (by first | rfl | (simp; done) | (simp [*]; done)), H', ⟨by first | omega | exact Nat.le_refl _⟩, ⟨bq BK279⟩, ⟨bw HB⟩⟩
 case rest =>
  clear HC2; (try clear c2); (try clear p2); (try clear c4); (try clear c4b0); (try clear c6); (try clear c6b0); (try clear c8); (try clear c8b0); (try clear hcz10_0); (try clear hcz10_1); (try clear hcz5_0); (try clear hcz5_1); (try clear hcz7_0); (try clear hcz7_1); (try clear hcz9_0); (try clear hcz9_1); (try clear hfz10_0); (try clear hfz10_1); (try clear hfz5_0); (try clear hfz5_1); (try clear hfz7_0); (try clear hfz7_1); (try clear hfz9_0); (try clear hfz9_1); obtain ⟨kq, x20_1, rfl, HA, HJ1, BK279, HB⟩ := hcut
  cases kq with
  | zero => exact absurd HA.out (by simp [r1_Valid.j0])
  | succ kj1 =>
   have H := HA.out; clear HA; simp only [r1_Valid.j0] at H
   by_cases c11 : x20_1 = true
   ·subst c11; (have H1 : (some false) = some r := by rw [if_pos rfl] at H; exact H); clear H; have H := H1; clear H1; obtain rfl := Option.some.inj H; (go_wp2); (go_ret); exact ⟨by first | rfl | (simp [errW_none, errW_some] <;> rfl) | (simp [*, errW_none, errW_some] <;> rfl), bw HB⟩
   ·replace c11 := Bool.eq_false_iff.mpr c11; subst c11; (have H1 : ((r1_Size.f a0_0).bind fun t280 => ((r1_Size.f a0_1).bind fun t281 => ((r1_Divisor.f kj1 0 t280 0 t281).bind fun bt282 => (some (bt282.1 == 0 && (bt282.2 == 1)))))) = some r := by rw [if_neg (show ¬ (false = true) by decide)] at H; exact H); clear H; have H := H1; clear H1; replace H := Option.bind_eq_some_iff.mp H; obtain ⟨t280, A120, H⟩ := H; (try dsimp only at H); have A12 := Aside0.mk A120; clear A120; replace H := Option.bind_eq_some_iff.mp H; obtain ⟨t281, A130, H⟩ := H; (try dsimp only at H); have A13 := Aside0.mk A130; clear A130; replace H := Option.bind_eq_some_iff.mp H; obtain ⟨⟨t282, t283⟩, A140, H⟩ := H; (try dsimp only at H); have A14 := Aside0.mk A140; clear A140; obtain rfl := Option.some.inj H; (try go_wp2); have n0_ := Aside0.mk (blk_drew BK279.out); have n1_ := Aside0.mk (below_drew1 HB.out); clear BK279; clear HB; have BK279 := n0_; have HB := n1_; clear n0_ n1_; refine start_ (n := 12) (S := fun w' => w'.cell? ⟨gb279, 0, none⟩ = some (.int .i64 a0_0) ∧ w'.cell? ⟨gb279, 1, none⟩ = some (.int .i64 a0_1)) (ds := []) #[false, false, false, false, false, false, false, false, false, false, false, false] (by kernel_rfl) rfl rfl ⟨bc BK279 0, bc BK279 1⟩ (fun hHeld => ?_); refine with_tabW r1_Valid.tab3 r1_Valid.bits3 (fun HT_ HW_ => ?_); (generalize wc.drew = w15 at BK279 HB hHeld ⊢); refine pure_ (i := 0) (N := some 21) (v := ?_) (a' := ?_) #[true, false, false, false, false, false, false, false, false, false, false, false] rfl rfl (any_of HT_.out (by kernel_rfl)) (fun _ _ _ h => h) (Or.inl ⟨by rfl, ?_⟩) ?_ ?_; rotate_left
    ·intro w'; (go_simp); with_reducible rfl
    rotate_left
    ·simp only [Act.put, List.setIfInBounds_toArray, List.set_cons_zero, List.set_cons_succ, i64_w, i32_w]; rfl
    refine pure_ (i := 4) (N := some 25) (v := ?_) (a' := ?_) #[true, false, false, false, true, false, false, false, false, false, false, false] rfl rfl (any_of HT_.out (by kernel_rfl)) (fun _ _ _ h => h) (Or.inl ⟨by rfl, ?_⟩) ?_ ?_; rotate_left
    ·intro w'; (go_simp); with_reducible rfl
    rotate_left
    ·simp only [Act.put, List.setIfInBounds_toArray, List.set_cons_zero, List.set_cons_succ, i64_w, i32_w]; rfl
    refine pure_ (i := 9) (N := some 30) (v := ?_) (a' := ?_) #[true, false, false, false, true, false, false, false, false, true, false, false] rfl rfl (any_of HT_.out (by kernel_rfl)) (fun _ _ _ h => h) (Or.inl ⟨by rfl, ?_⟩) ?_ ?_; rotate_left
    ·intro w'; (go_simp); with_reducible rfl
    rotate_left
    ·simp only [Act.put, List.setIfInBounds_toArray, List.set_cons_zero, List.set_cons_succ, i64_w, i32_w]; rfl
    refine take_ (i := 1) (N := some 22) (v := ?_) (a' := ?_) #[true, true, false, false, true, false, false, false, false, true, false, false] rfl rfl (take_ofW HT_.out HW_.out (by kernel_rfl)) (fun _ _ _ h => h) (Or.inl ⟨by rfl, ?_⟩) hHeld ?_ ?_; rotate_left
    ·rintro w' ⟨s0, s1⟩; (go_simp); with_reducible rfl
    rotate_left
    ·simp only [Act.put, List.setIfInBounds_toArray, List.set_cons_zero, List.set_cons_succ, i64_w, i32_w]; rfl
    refine take_ (i := 5) (N := some 26) (v := ?_) (a' := ?_) #[true, true, false, false, true, true, false, false, false, true, false, false] rfl rfl (take_ofW HT_.out HW_.out (by kernel_rfl)) (fun _ _ _ h => h) (Or.inl ⟨by rfl, ?_⟩) hHeld ?_ ?_; rotate_left
    ·rintro w' ⟨s0, s1⟩; (go_simp); with_reducible rfl
    rotate_left
    ·simp only [Act.put, List.setIfInBounds_toArray, List.set_cons_zero, List.set_cons_succ, i64_w, i32_w]; rfl
    refine one_ (i := 2) (N := some 23) #[true, true, true, false, true, true, false, false, false, true, false, false] rfl rfl (one_of HT_.out (by kernel_rfl)) (by decide) (fun K hK => ?_); refine gz Try.func51 #[.int .i64 a0_0] ?_; (with_reducible refine (r1_Size.calls a0_0 t280 _ A12.out).mono ?_); rintro e w' ⟨rfl, ⟨nd, rfl⟩⟩; refine ⟨_, rfl, ?_⟩; refine hK.out _ _ ⟨bc BK279 0, bc BK279 1⟩ (fun hHeld => ?_); clear hK K; refine norm_ (a' := ?_) ?_ ?_; rotate_left
    ·show Act.put _ (some 23) _ = _; simp only [Act.put, List.setIfInBounds_toArray, List.set_cons_zero, List.set_cons_succ, i64_w, i32_w]; rfl
    refine pure_ (i := 3) (N := some 24) (v := ?_) (a' := ?_) #[true, true, true, true, true, true, false, false, false, true, false, false] rfl rfl (any_of HT_.out (by kernel_rfl)) (fun _ _ _ h => h) (Or.inl ⟨by rfl, ?_⟩) ?_ ?_; rotate_left
    ·intro w'; (go_simp); with_reducible rfl
    rotate_left
    ·simp only [Act.put, List.setIfInBounds_toArray, List.set_cons_zero, List.set_cons_succ, i64_w, i32_w]; rfl
    refine one_ (i := 6) (N := some 27) #[true, true, true, true, true, true, true, false, false, true, false, false] rfl rfl (one_of HT_.out (by kernel_rfl)) (by decide) (fun K hK => ?_); refine gz Try.func51 #[.int .i64 a0_1] ?_; (with_reducible refine (r1_Size.calls a0_1 t281 _ A13.out).mono ?_); rintro e w' ⟨rfl, ⟨nd, rfl⟩⟩; refine ⟨_, rfl, ?_⟩; refine hK.out _ _ ⟨bc BK279 0, bc BK279 1⟩ (fun hHeld => ?_); clear hK K; refine norm_ (a' := ?_) ?_ ?_; rotate_left
    ·show Act.put _ (some 27) _ = _; simp only [Act.put, List.setIfInBounds_toArray, List.set_cons_zero, List.set_cons_succ, i64_w, i32_w]; rfl
    refine pure_ (i := 7) (N := some 28) (v := ?_) (a' := ?_) #[true, true, true, true, true, true, true, true, false, true, false, false] rfl rfl (any_of HT_.out (by kernel_rfl)) (fun _ _ _ h => h) (Or.inl ⟨by rfl, ?_⟩) ?_ ?_; rotate_left
    ·intro w'; (go_simp); with_reducible rfl
    rotate_left
    ·simp only [Act.put, List.setIfInBounds_toArray, List.set_cons_zero, List.set_cons_succ, i64_w, i32_w]; rfl
    refine one_ (i := 8) (N := some 29) #[true, true, true, true, true, true, true, true, true, true, false, false] rfl rfl (one_of HT_.out (by kernel_rfl)) (by decide) (fun K hK => ?_); refine gz Try.func53 #[.agg #[.int .u64 0, .int .u64 t280], .agg #[.int .u64 0, .int .u64 t281]] ?_; (with_reducible refine (r1_Divisor.calls kj1 0 t280 0 t281 t282 t283 _ A14.out).mono ?_); rintro e w16 ⟨rfl, hb⟩; refine ⟨_, rfl, ?_⟩; have n0_ := kb BK279 hb; have n1_ := wb HB hb; clear BK279; clear HB; have BK279 := n0_; have HB := n1_; clear n0_ n1_; (try clear hb); (try clear hb2); (try clear hk); (try clear hi); refine hK.out _ _ ⟨bc BK279 0, bc BK279 1⟩ (fun hHeld => ?_); clear hK K; refine norm_ (a' := ?_) ?_ ?_; rotate_left
    ·show Act.put _ (some 29) _ = _; simp only [Act.put, List.setIfInBounds_toArray, List.set_cons_zero, List.set_cons_succ, i64_w, i32_w]; rfl
    refine pure_ (i := 10) (N := some 31) (v := ?_) (a' := ?_) #[true, true, true, true, true, true, true, true, true, true, true, false] rfl rfl (any_of HT_.out (by kernel_rfl)) (fun _ _ _ h => h) (Or.inl ⟨by rfl, ?_⟩) ?_ ?_; rotate_left
    ·intro w'; (go_simp); with_reducible rfl
    rotate_left
    ·simp only [Act.put, List.setIfInBounds_toArray, List.set_cons_zero, List.set_cons_succ, i64_w, i32_w]; rfl
    refine pure_ (i := 11) (N := some 2) (v := ?_) (a' := ?_) #[true, true, true, true, true, true, true, true, true, true, true, true] rfl rfl (any_of HT_.out (by kernel_rfl)) (fun _ _ _ h => h) (Or.inl ⟨by rfl, ?_⟩) ?_ ?_; rotate_left
    ·intro w'; (go_simp); with_reducible rfl
    rotate_left
    ·simp only [Act.put, List.setIfInBounds_toArray, List.set_cons_zero, List.set_cons_succ, i64_w, i32_w]; rfl
    refine done_ (done_of HT_.out (by kernel_rfl)) ?_; (try go_wp2); (go_ret); exact ⟨by first | rfl | (simp [errW_none, errW_some] <;> rfl) | (simp [*, errW_none, errW_some] <;> rfl), bw HB⟩

end Go.Proofs.Ytcbohbeipgcfhaa.G

-- Printed by gp.py (a program of this session's own, over the kit's printer) out of the translation; Lean checks it.
namespace Go.Proofs.Ytcbohbeipgcfhaa.G
open Go.Proofs.Ytcbohbeipgcfhaa.Given Go.Proofs.Ytcbohbeipgcfhaa.Short
open Go.RowKit Go.Proofs.YtcbohbeipgcfhaaW.PrintWords Go.Proofs.YtcbohbeipgcfhaaW.PrintLast Go.Proofs.YtcbohbeipgcfhaaW.PrintMore
attribute [local go_sem] max2_int min2_int max_two min_two max_three min_three max_four min_four   -- for this text's walks alone
set_option linter.unusedVariables false
set_option linter.unusedSimpArgs false

/-! ### r1_Product: function 58 -/
def r1_Product.f (a0 : Int) (a1 : Int) : Option (Int × Int) := (bits_Mul64.f a0 a1).bind fun bt368 => (some (bt368.1, bt368.2))
set_option maxHeartbeats 8000000 in
set_option maxRecDepth 100000 in
theorem r1_Product.calls (a0 : Int) (a1 : Int) (r1 : Int) (r2 : Int) (w : World) (h : r1_Product.f a0 a1 = some (r1, r2)) :
  Calls Try.prog 58 #[.int .u64 a0, .int .u64 a1] w fun e w' => e = .returned (.agg #[.int .u64 r1, .int .u64 r2]) ∧ Below w.heap.size w w' := by
 have hu61 := Try.underlying61; have HB := Aside0.mk (Below.refl w.heap.size w); have H : ((bits_Mul64.f a0 a1).bind fun bt368 => (some (bt368.1, bt368.2))) = some (r1, r2) := h; clear h; replace H := Option.bind_eq_some_iff.mp H; obtain ⟨⟨t368, t369⟩, A30, H⟩ := H; (try dsimp only at H); have A3 := Aside0.mk A30; clear A30; simp only [Option.some.injEq, Prod.mk.injEq] at H; obtain ⟨rfl, rfl⟩ := H; (go_enter Try.func58, Try.ntmps58); (go_wp2_with (first | ((with_reducible refine gate_dst (N := 4) rfl ?_); refine bx (N := 4) (cs := #[.int .u64 0, .int .u64 0]) (t := 61) ?_; intro gb367 hg w4 hbox hb; have BK367 := Aside0.mk (hbox); have GW367 := gs HB hg; have GE367 := gs HB hg; replace HB := wb HB hb; clear hb hbox hg) | ((with_reducible refine gate_callee (f := 57) rfl ?_); refine gl (some 10) Try.func57 #[.int .u64 a0, .int .u64 a1] ?_; (with_reducible refine (bits_Mul64.calls a0 a1 t368 t369 _ A3.out).mono ?_); rintro e w' ⟨rfl, ⟨nd, rfl⟩⟩; refine ⟨_, rfl, ?_⟩; (try (rw [drewN_self w4]; generalize hq_ : World.drewN w4 _ = w4; replace BK367 : Aside0 (w4.heap[gb367]? = some (.cells #[.int .u64 0, .int .u64 0] 61 (0, 0))) := ⟨by rw [← hq_]; exact (bq BK367)⟩; replace HB : Aside0 (Below w.heap.size w w4) := ⟨by rw [← hq_]; exact (bw HB)⟩; clear hq_)); have hcz5_0 : w4.cell? ⟨gb367, 0, none⟩ = some (.int .u64 0) := bc BK367 0; have hcz5_1 : w4.cell? ⟨gb367, 1, none⟩ = some (.int .u64 0) := bc BK367 1; have hfz5_0 := blk_frozen BK367.out 0; have hfz5_1 := blk_frozen BK367.out 1))); refine bodyPost_ret (results_cell_row rfl _ _ gb367 61 #[.int .u64 t368, .int .u64 t369] (0, 0) _ rfl (by refine pe ?_; refine blk_put (cs := #[.int .u64 t368, .int .u64 0]) ?_ 1 _ rfl; refine pe ?_; refine blk_put (cs := #[.int .u64 0, .int .u64 0]) ?_ 0 _ rfl; refine pe ?_; exact BK367.out) Try.underlying61 rfl (by kernel_rfl)) rfl ?_; exact ⟨by first | rfl | (simp [errW_none, errW_some] <;> rfl) | (simp [*, errW_none, errW_some] <;> rfl), bw HB⟩

end Go.Proofs.Ytcbohbeipgcfhaa.G

-- Printed by gp.py (a program of this session's own, over the kit's printer) out of the translation; Lean checks it.
namespace Go.Proofs.Ytcbohbeipgcfhaa.G
open Go.Proofs.Ytcbohbeipgcfhaa.Given Go.Proofs.Ytcbohbeipgcfhaa.Short
open Go.RowKit Go.Proofs.YtcbohbeipgcfhaaW.PrintWords Go.Proofs.YtcbohbeipgcfhaaW.PrintLast Go.Proofs.YtcbohbeipgcfhaaW.PrintMore
attribute [local go_sem] max2_int min2_int max_two min_two max_three min_three max_four min_four   -- for this text's walks alone
set_option linter.unusedVariables false
set_option linter.unusedSimpArgs false

/-! ### r1_Mul: function 28 -/
def r1_Mul.j0 : Nat → Bool → Int → Int → Int → Int → Option (Int × Int × Int)
 | 0, _, _, _, _, _ => none
 | k + 1, x13, x371000, x371001, x372000, x372001 => if x13 = true then (some (0, 0, 1)) else ((r1_Size.f x371000).bind fun t375 => ((r1_Size.f x372000).bind fun t376 => ((r1_Product.f t375 t376).bind fun bt377 => ((r1_Size.f x371001).bind fun t379 => ((r1_Size.f x372001).bind fun t380 => ((r1_Product.f t379 t380).bind fun bt381 => ((r1_Reduce.f k ((decide (x371000 < 0)) != (decide (x372000 < 0))) bt377.1 bt377.2 bt381.1 bt381.2).bind fun bt383 => (some (bt383.1, bt383.2.1, bt383.2.2)))))))))
def r1_Mul.f (k : Nat) (a0_0 : Int) (a0_1 : Int) (a1_0 : Int) (a1_1 : Int) : Option (Int × Int × Int) := (r1_Valid.f k a0_0 a0_1).bind fun t373 => (if t373 = true then ((r1_Valid.f k a1_0 a1_1).bind fun t374 => (r1_Mul.j0 k (!t374) a0_0 a0_1 a1_0 a1_1)) else (r1_Mul.j0 k true a0_0 a0_1 a1_0 a1_1))
theorem r1_Mul.mono_l : ∀ k, (∀ y0 y1 y2 y3 y4, LeO (r1_Mul.j0 k y0 y1 y2 y3 y4) (r1_Mul.j0 (k + 1) y0 y1 y2 y3 y4))
 | 0 => fun _ _ _ _ _ r h => by simp [r1_Mul.j0] at h
 | k + 1 => by
  have ih0 := r1_Mul.mono_l k
  ·intro y0 y1 y2 y3 y4; unfold r1_Mul.j0
   repeat' first
   | (with_reducible exact ih0 _ _ _ _ _)
   | (with_reducible exact r1_Reduce.mono _ _ _ _ _ _)
   | (with_reducible exact r1_Valid.mono _ _ _)
   | (with_reducible exact LeO.refl _)
   | (with_reducible exact LeO.none _)
   | (with_reducible refine LeO.ite ?_ ?_)
   | (with_reducible refine LeO.bind ?_ (fun _ => ?_))
   | exact ih0 _ _ _ _ _
   | exact r1_Reduce.mono _ _ _ _ _ _
   | exact r1_Valid.mono _ _ _
   | exact LeO.none _
   | refine LeO.ite ?_ ?_
   | refine LeO.bind ?_ (fun _ => ?_)
theorem r1_Mul.mono : ∀ a0 a1 a2 a3 k, LeO (r1_Mul.f k a0 a1 a2 a3) (r1_Mul.f (k + 1) a0 a1 a2 a3) := by
 intro a0 a1 a2 a3 k; have ih0 := r1_Mul.mono_l k; unfold r1_Mul.f
 repeat' first
   | (with_reducible exact ih0 _ _ _ _ _)
   | (with_reducible exact r1_Reduce.mono _ _ _ _ _ _)
   | (with_reducible exact r1_Valid.mono _ _ _)
   | (with_reducible exact LeO.refl _)
   | (with_reducible exact LeO.none _)
   | (with_reducible refine LeO.ite ?_ ?_)
   | (with_reducible refine LeO.bind ?_ (fun _ => ?_))
   | exact ih0 _ _ _ _ _
   | exact r1_Reduce.mono _ _ _ _ _ _
   | exact r1_Valid.mono _ _ _
   | exact LeO.none _
   | refine LeO.ite ?_ ?_
   | refine LeO.bind ?_ (fun _ => ?_)
def r1_Mul.T3 : Bool × List (List Nat × List Nat) := (true, [([], []), ([0], [0]), ([1], [1]), ([], []), ([3], [3]), ([4], [4]), ([2, 5], [2, 5]), ([], []), ([7], [7]), ([8], [8]), ([], []), ([10], [10]), ([11, 9], [11]), ([9, 12, 12], [9, 12]), ([], []), ([14], [14]), ([15, 13], [15]), ([], []), ([17], [17]), ([18, 16], [18]), ([16, 19, 19], [16, 19]), ([6, 13, 20, 20], [6, 13, 20]), ([21], [21]), ([21], [21]), ([22, 21, 0, 1, 2, 3, 4, 5, 6, 7, 8, 9, 10, 11, 12, 13, 14, 15, 16, 17, 18, 19, 20, 21, 22, 23], [22]), ([23, 24, 0, 1, 2, 3, 4, 5, 6, 7, 8, 9, 10, 11, 12, 13, 14, 15, 16, 17, 18, 19, 20, 21, 22, 23, 24], [23])])
def r1_Mul.B3 : List Nat := [0, 1, 3, 0, 8, 24, 63, 0, 128, 384, 0, 1024, 3968, 8064, 0, 16384, 65408, 0, 131072, 524160, 1048448, 2097151, 4194303, 4194303, 16777215, 33554431]
theorem r1_Mul.tab3 : rtab .any (opsOf Try.f28 3) = r1_Mul.T3 := by kernel_rfl
theorem r1_Mul.bits3 : waitsOk r1_Mul.T3.2 r1_Mul.B3 = true := by kernel_rfl
set_option maxHeartbeats 8000000 in
set_option maxRecDepth 100000 in
theorem r1_Mul.calls (k : Nat) (a0_0 : Int) (a0_1 : Int) (a1_0 : Int) (a1_1 : Int) (r1 : Int) (r2 : Int) (r3 : Int) (w : World) (h : r1_Mul.f k a0_0 a0_1 a1_0 a1_1 = some (r1, r2, r3)) :
  Calls Try.prog 28 #[.agg #[.int .i64 a0_0, .int .i64 a0_1], .agg #[.int .i64 a1_0, .int .i64 a1_1]] w fun e w' => e = .returned (.tuple #[.agg #[.int .i64 r1, .int .i64 r2], .int .i64 r3]) ∧ Below w.heap.size w w' := by
 have hu35 := Try.underlying35; have HB := Aside0.mk (Below.refl w.heap.size w); have H : ((r1_Valid.f k a0_0 a0_1).bind fun t373 => (if t373 = true then ((r1_Valid.f k a1_0 a1_1).bind fun t374 => (r1_Mul.j0 k (!t374) a0_0 a0_1 a1_0 a1_1)) else (r1_Mul.j0 k true a0_0 a0_1 a1_0 a1_1))) = some (r1, r2, r3) := h; clear h; have HC3 := Aside0.mk H; clear H; go_enter Try.func28, Try.ntmps28
 go_upto_region 1 with (first | ((with_reducible refine gate_dst (N := 2) rfl ?_); refine bx (N := 2) (cs := #[.int .i64 a0_0, .int .i64 a0_1]) (t := 35) ?_; intro gb370 hg w4 hbox hb; have BK370 := Aside0.mk (hbox); have GW370 := gs HB hg; have GE370 := gs HB hg; replace HB := wb HB hb; clear hb hbox hg) | ((with_reducible refine gate_dst (N := 3) rfl ?_); refine bx (N := 3) (cs := #[.int .i64 a1_0, .int .i64 a1_1]) (t := 35) ?_; intro gb371 hg w5 hbox hb; have BK371 := Aside0.mk (hbox); have GW371 := gs HB hg; have GE371 := gs HB hg; have NB370_371 := nl BK370 hg; have NB371_370 := nr BK370 hg; replace BK370 := kb BK370 hb; replace HB := wb HB hb; clear hb hbox hg) | ((with_reducible refine gate_dst (N := 4) rfl ?_); refine bx (N := 4) (cs := #[.int .i64 0, .int .i64 0]) (t := 35) ?_; intro gb372 hg w6 hbox hb; have BK372 := Aside0.mk (hbox); have GW372 := gs HB hg; have GE372 := gs HB hg; have NB370_372 := nl BK370 hg; have NB372_370 := nr BK370 hg; have NB371_372 := nl BK371 hg; have NB372_371 := nr BK371 hg; replace BK370 := kb BK370 hb; replace BK371 := kb BK371 hb; replace HB := wb HB hb; clear hb hbox hg))
 (try simp only [Act.put, List.setIfInBounds_toArray, List.set_cons_zero, List.set_cons_succ])
 go_cut [13] (fun v13 wc => ∃ (kq : Nat) (x13_2 : Bool), v13 = .bool x13_2 ∧ Aside0 (r1_Mul.j0 kq x13_2 a0_0 a0_1 a1_0 a1_1 = some (r1, r2, r3)) ∧ Aside0 (kq ≤ k) ∧ Aside0 (wc.heap[gb370]? = some (.cells #[.int .i64 a0_0, .int .i64 a0_1] 35 (0, 0))) ∧ Aside0 (wc.heap[gb371]? = some (.cells #[.int .i64 a1_0, .int .i64 a1_1] 35 (0, 0))) ∧ Aside0 (wc.heap[gb372]? = some (.cells #[.int .i64 0, .int .i64 0] 35 (0, 0))) ∧ Aside0 (Below w.heap.size w wc))
 case first =>
  have H := HC3.out; clear HC3; replace H := Option.bind_eq_some_iff.mp H; obtain ⟨t373, A70, H⟩ := H; (try dsimp only at H); have A7 := Aside0.mk A70; clear A70
  by_cases c8 : t373 = true
  ·subst c8; (have H1 : ((r1_Valid.f k a1_0 a1_1).bind fun t374 => (r1_Mul.j0 k (!t374) a0_0 a0_1 a1_0 a1_1)) = some (r1, r2, r3) := by rw [if_pos rfl] at H; exact H); clear H; have H := H1; clear H1; replace H := Option.bind_eq_some_iff.mp H; obtain ⟨t374, A90, H⟩ := H; (try dsimp only at H); have A9 := Aside0.mk A90; clear A90; have H' := Aside0.mk H; clear H; obtain ⟨hnb10, hnc10⟩ := n2 NB370_371; obtain ⟨hnb11, hnc11⟩ := n2 NB370_372; have hcz12_0 : w6.cell? ⟨gb370, 0, none⟩ = some (.int .i64 a0_0) := bc BK370 0; have hcz12_1 : w6.cell? ⟨gb370, 1, none⟩ = some (.int .i64 a0_1) := bc BK370 1; have hfz12_0 := blk_frozen BK370.out 0; have hfz12_1 := blk_frozen BK370.out 1; go_wp2_with (first | ((with_reducible refine gate_callee (f := 25) rfl ?_); refine gl (some 7) Try.func25 #[.agg #[.int .i64 a0_0, .int .i64 a0_1]] ?_; (with_reducible refine (r1_Valid.calls k a0_0 a0_1 true _ A7.out).mono ?_); rintro e w13 ⟨rfl, hb⟩; refine ⟨_, rfl, ?_⟩; replace BK370 := kb BK370 hb; replace BK371 := kb BK371 hb; replace BK372 := kb BK372 hb; replace HB := wb HB hb; (try clear hb); (try clear hb2); (try clear hk); (try clear hi); obtain ⟨hnb14, hnc14⟩ := n2 NB371_372; have hcz15_0 : w13.cell? ⟨gb371, 0, none⟩ = some (.int .i64 a1_0) := bc BK371 0; have hcz15_1 : w13.cell? ⟨gb371, 1, none⟩ = some (.int .i64 a1_1) := bc BK371 1; have hfz15_0 := blk_frozen BK371.out 0; have hfz15_1 := blk_frozen BK371.out 1) | (go_at_call 25; (with_reducible refine (r1_Valid.calls k a1_0 a1_1 t374 _ A9.out).mono ?_); rintro e w16 ⟨rfl, hb⟩; replace BK370 := kb BK370 hb; replace BK371 := kb BK371 hb; replace BK372 := kb BK372 hb; replace HB := wb HB hb; (try clear hb); (try clear hb2); (try clear hk); (try clear hi)))
   go_meet
   case rel => exact ⟨_, (!t374), (by first | rfl | (simp; done) | (simp [*]; done)), H', ⟨by first | omega | exact Nat.le_refl _⟩, ⟨bq BK370⟩, ⟨bq BK371⟩, ⟨bq BK372⟩, ⟨bw HB⟩⟩
  ·replace c8 := Bool.eq_false_iff.mpr c8; subst c8; (have H1 : (r1_Mul.j0 k true a0_0 a0_1 a1_0 a1_1) = some (r1, r2, r3) := by rw [if_neg (show ¬ (false = true) by decide)] at H; exact H); clear H; have H := H1; clear H1; have H' := Aside0.mk H; clear H; obtain ⟨hnb17, hnc17⟩ := n2 NB370_371; obtain ⟨hnb18, hnc18⟩ := n2 NB370_372; have hcz19_0 : w6.cell? ⟨gb370, 0, none⟩ = some (.int .i64 a0_0) := bc BK370 0; have hcz19_1 : w6.cell? ⟨gb370, 1, none⟩ = some (.int .i64 a0_1) := bc BK370 1; have hfz19_0 := blk_frozen BK370.out 0; have hfz19_1 := blk_frozen BK370.out 1; go_wp2_with (first | ((with_reducible refine gate_callee (f := 25) rfl ?_); refine gl (some 7) Try.func25 #[.agg #[.int .i64 a0_0, .int .i64 a0_1]] ?_; (with_reducible refine (r1_Valid.calls k a0_0 a0_1 false _ A7.out).mono ?_); rintro e w20 ⟨rfl, hb⟩; refine ⟨_, rfl, ?_⟩; replace BK370 := kb BK370 hb; replace BK371 := kb BK371 hb; replace BK372 := kb BK372 hb; replace HB := wb HB hb; (try clear hb); (try clear hb2); (try clear hk); (try clear hi)))
   go_meet
   case rel => exact ⟨_, (true), (by first | rfl | (simp; done) | (simp [*]; done)), H', ⟨by first | omega | exact Nat.le_refl _⟩, ⟨bq BK370⟩, ⟨bq BK371⟩, ⟨bq BK372⟩, ⟨bw HB⟩⟩
 case rest =>
  clear HC3; (try clear c1); (try clear c2); (try clear p2); (try clear c8); (try clear c10); (try clear c11); (try clear c14); (try clear c17); (try clear c18); (try clear hcz12_0); (try clear hcz12_1); (try clear hcz15_0); (try clear hcz15_1); (try clear hcz19_0); (try clear hcz19_1); (try clear hfz12_0); (try clear hfz12_1); (try clear hfz15_0); (try clear hfz15_1); (try clear hfz19_0); (try clear hfz19_1); obtain ⟨kq, x13_2, rfl, HA, HJ2, BK370, BK371, BK372, HB⟩ := hcut
  cases kq with
  | zero => exact absurd HA.out (by simp [r1_Mul.j0])
  | succ kj2 =>
   have H := HA.out; clear HA; simp only [r1_Mul.j0] at H
   by_cases c21 : x13_2 = true
   ·subst c21; (have H1 : (some (0, 0, 1)) = some (r1, r2, r3) := by rw [if_pos rfl] at H; exact H); clear H; have H := H1; clear H1; simp only [Option.some.injEq, Prod.mk.injEq] at H; obtain ⟨rfl, rfl, rfl⟩ := H; obtain ⟨hnb22, hnc22⟩ := n2 NB372_370; obtain ⟨hnb23, hnc23⟩ := n2 NB372_371; have hcz24_0 : wc.cell? ⟨gb372, 0, none⟩ = some (.int .i64 0) := bc BK372 0; have hcz24_1 : wc.cell? ⟨gb372, 1, none⟩ = some (.int .i64 0) := bc BK372 1; have hfz24_0 := blk_frozen BK372.out 0; have hfz24_1 := blk_frozen BK372.out 1; (go_wp2); refine bodyPost_ret (results_ct rfl _ _ gb372 35 #[.int .i64 0, .int .i64 0] (0, 0) _ rfl (by refine pe ?_; refine blk_put (cs := #[.int .i64 0, .int .i64 0]) ?_ 1 _ rfl; refine pe ?_; refine blk_put (cs := #[.int .i64 0, .int .i64 0]) ?_ 0 _ rfl; refine pe ?_; exact BK372.out) Try.underlying35 rfl (by kernel_rfl)) rfl ?_; exact ⟨by first | rfl | (simp [errW_none, errW_some] <;> rfl) | (simp [*, errW_none, errW_some] <;> rfl), bw HB⟩
   ·replace c21 := Bool.eq_false_iff.mpr c21; subst c21; (have H1 : ((r1_Size.f a0_0).bind fun t375 => ((r1_Size.f a1_0).bind fun t376 => ((r1_Product.f t375 t376).bind fun bt377 => ((r1_Size.f a0_1).bind fun t379 => ((r1_Size.f a1_1).bind fun t380 => ((r1_Product.f t379 t380).bind fun bt381 => ((r1_Reduce.f kj2 ((decide (a0_0 < 0)) != (decide (a1_0 < 0))) bt377.1 bt377.2 bt381.1 bt381.2).bind fun bt383 => (some (bt383.1, bt383.2.1, bt383.2.2))))))))) = some (r1, r2, r3) := by rw [if_neg (show ¬ (false = true) by decide)] at H; exact H); clear H; have H := H1; clear H1; replace H := Option.bind_eq_some_iff.mp H; obtain ⟨t375, A250, H⟩ := H; (try dsimp only at H); have A25 := Aside0.mk A250; clear A250; replace H := Option.bind_eq_some_iff.mp H; obtain ⟨t376, A260, H⟩ := H; (try dsimp only at H); have A26 := Aside0.mk A260; clear A260; replace H := Option.bind_eq_some_iff.mp H; obtain ⟨⟨t377, t378⟩, A270, H⟩ := H; (try dsimp only at H); have A27 := Aside0.mk A270; clear A270; replace H := Option.bind_eq_some_iff.mp H; obtain ⟨t379, A280, H⟩ := H; (try dsimp only at H); have A28 := Aside0.mk A280; clear A280; replace H := Option.bind_eq_some_iff.mp H; obtain ⟨t380, A290, H⟩ := H; (try dsimp only at H); have A29 := Aside0.mk A290; clear A290; replace H := Option.bind_eq_some_iff.mp H; obtain ⟨⟨t381, t382⟩, A300, H⟩ := H; (try dsimp only at H); have A30 := Aside0.mk A300; clear A300; replace H := Option.bind_eq_some_iff.mp H; obtain ⟨⟨t383, t384, t385⟩, A310, H⟩ := H; (try dsimp only at H); have A31 := Aside0.mk A310; clear A310; simp only [Option.some.injEq, Prod.mk.injEq] at H; obtain ⟨rfl, rfl, rfl⟩ := H; (try go_wp2); have n0_ := Aside0.mk (blk_drew BK370.out); have n1_ := Aside0.mk (blk_drew BK371.out); have n2_ := Aside0.mk (blk_drew BK372.out); have n3_ := Aside0.mk (below_drew1 HB.out); clear BK370; clear BK371; clear BK372; clear HB; have BK370 := n0_; have BK371 := n1_; have BK372 := n2_; have HB := n3_; clear n0_ n1_ n2_ n3_; refine start_ (n := 26) (S := fun w' => w'.cell? ⟨gb370, 0, none⟩ = some (.int .i64 a0_0) ∧ w'.cell? ⟨gb370, 1, none⟩ = some (.int .i64 a0_1) ∧ w'.cell? ⟨gb371, 0, none⟩ = some (.int .i64 a1_0) ∧ w'.cell? ⟨gb371, 1, none⟩ = some (.int .i64 a1_1)) (ds := []) #[false, false, false, false, false, false, false, false, false, false, false, false, false, false, false, false, false, false, false, false, false, false, false, false, false, false] (by kernel_rfl) rfl rfl ⟨bc BK370 0, bc BK370 1, bc BK371 0, bc BK371 1⟩ (fun hHeld => ?_); refine with_tabW r1_Mul.tab3 r1_Mul.bits3 (fun HT_ HW_ => ?_); (generalize wc.drew = w32 at BK370 BK371 BK372 HB hHeld ⊢); refine pure_ (i := 0) (N := some 15) (v := ?_) (a' := ?_) #[true, false, false, false, false, false, false, false, false, false, false, false, false, false, false, false, false, false, false, false, false, false, false, false, false, false] rfl rfl (any_of HT_.out (by kernel_rfl)) (fun _ _ _ h => h) (Or.inl ⟨by rfl, ?_⟩) ?_ ?_; rotate_left
    ·intro w'; (go_simp); with_reducible rfl
    rotate_left
    ·simp only [Act.put, List.setIfInBounds_toArray, List.set_cons_zero, List.set_cons_succ, i64_w, i32_w]; rfl
    refine pure_ (i := 3) (N := some 18) (v := ?_) (a' := ?_) #[true, false, false, true, false, false, false, false, false, false, false, false, false, false, false, false, false, false, false, false, false, false, false, false, false, false] rfl rfl (any_of HT_.out (by kernel_rfl)) (fun _ _ _ h => h) (Or.inl ⟨by rfl, ?_⟩) ?_ ?_; rotate_left
    ·intro w'; (go_simp); with_reducible rfl
    rotate_left
    ·simp only [Act.put, List.setIfInBounds_toArray, List.set_cons_zero, List.set_cons_succ, i64_w, i32_w]; rfl
    refine pure_ (i := 7) (N := some 22) (v := ?_) (a' := ?_) #[true, false, false, true, false, false, false, true, false, false, false, false, false, false, false, false, false, false, false, false, false, false, false, false, false, false] rfl rfl (any_of HT_.out (by kernel_rfl)) (fun _ _ _ h => h) (Or.inl ⟨by rfl, ?_⟩) ?_ ?_; rotate_left
    ·intro w'; (go_simp); with_reducible rfl
    rotate_left
    ·simp only [Act.put, List.setIfInBounds_toArray, List.set_cons_zero, List.set_cons_succ, i64_w, i32_w]; rfl
    refine pure_ (i := 10) (N := some 25) (v := ?_) (a' := ?_) #[true, false, false, true, false, false, false, true, false, false, true, false, false, false, false, false, false, false, false, false, false, false, false, false, false, false] rfl rfl (any_of HT_.out (by kernel_rfl)) (fun _ _ _ h => h) (Or.inl ⟨by rfl, ?_⟩) ?_ ?_; rotate_left
    ·intro w'; (go_simp); with_reducible rfl
    rotate_left
    ·simp only [Act.put, List.setIfInBounds_toArray, List.set_cons_zero, List.set_cons_succ, i64_w, i32_w]; rfl
    refine pure_ (i := 14) (N := some 29) (v := ?_) (a' := ?_) #[true, false, false, true, false, false, false, true, false, false, true, false, false, false, true, false, false, false, false, false, false, false, false, false, false, false] rfl rfl (any_of HT_.out (by kernel_rfl)) (fun _ _ _ h => h) (Or.inl ⟨by rfl, ?_⟩) ?_ ?_; rotate_left
    ·intro w'; (go_simp); with_reducible rfl
    rotate_left
    ·simp only [Act.put, List.setIfInBounds_toArray, List.set_cons_zero, List.set_cons_succ, i64_w, i32_w]; rfl
    refine pure_ (i := 17) (N := some 32) (v := ?_) (a' := ?_) #[true, false, false, true, false, false, false, true, false, false, true, false, false, false, true, false, false, true, false, false, false, false, false, false, false, false] rfl rfl (any_of HT_.out (by kernel_rfl)) (fun _ _ _ h => h) (Or.inl ⟨by rfl, ?_⟩) ?_ ?_; rotate_left
    ·intro w'; (go_simp); with_reducible rfl
    rotate_left
    ·simp only [Act.put, List.setIfInBounds_toArray, List.set_cons_zero, List.set_cons_succ, i64_w, i32_w]; rfl
    refine take_ (i := 1) (N := some 16) (v := ?_) (a' := ?_) #[true, true, false, true, false, false, false, true, false, false, true, false, false, false, true, false, false, true, false, false, false, false, false, false, false, false] rfl rfl (take_ofW HT_.out HW_.out (by kernel_rfl)) (fun _ _ _ h => h) (Or.inl ⟨by rfl, ?_⟩) hHeld ?_ ?_; rotate_left
    ·rintro w' ⟨s0, s1, s2, s3⟩; (go_simp); with_reducible rfl
    rotate_left
    ·simp only [Act.put, List.setIfInBounds_toArray, List.set_cons_zero, List.set_cons_succ, i64_w, i32_w]; rfl
    refine pure_ (i := 2) (N := some 17) (v := ?_) (a' := ?_) #[true, true, true, true, false, false, false, true, false, false, true, false, false, false, true, false, false, true, false, false, false, false, false, false, false, false] rfl rfl (any_of HT_.out (by kernel_rfl)) (fun _ _ _ h => h) (Or.inl ⟨by rfl, ?_⟩) ?_ ?_; rotate_left
    ·intro w'; (go_simp); with_reducible rfl
    rotate_left
    ·simp only [Act.put, List.setIfInBounds_toArray, List.set_cons_zero, List.set_cons_succ, i64_w, i32_w]; rfl
    refine take_ (i := 4) (N := some 19) (v := ?_) (a' := ?_) #[true, true, true, true, true, false, false, true, false, false, true, false, false, false, true, false, false, true, false, false, false, false, false, false, false, false] rfl rfl (take_ofW HT_.out HW_.out (by kernel_rfl)) (fun _ _ _ h => h) (Or.inl ⟨by rfl, ?_⟩) hHeld ?_ ?_; rotate_left
    ·rintro w' ⟨s0, s1, s2, s3⟩; (go_simp); with_reducible rfl
    rotate_left
    ·simp only [Act.put, List.setIfInBounds_toArray, List.set_cons_zero, List.set_cons_succ, i64_w, i32_w]; rfl
    refine pure_ (i := 5) (N := some 20) (v := ?_) (a' := ?_) #[true, true, true, true, true, true, false, true, false, false, true, false, false, false, true, false, false, true, false, false, false, false, false, false, false, false] rfl rfl (any_of HT_.out (by kernel_rfl)) (fun _ _ _ h => h) (Or.inl ⟨by rfl, ?_⟩) ?_ ?_; rotate_left
    ·intro w'; (go_simp); with_reducible rfl
    rotate_left
    ·simp only [Act.put, List.setIfInBounds_toArray, List.set_cons_zero, List.set_cons_succ, i64_w, i32_w]; rfl
    refine pure_ (i := 6) (N := some 21) (v := ?_) (a' := ?_) #[true, true, true, true, true, true, true, true, false, false, true, false, false, false, true, false, false, true, false, false, false, false, false, false, false, false] rfl rfl (any_of HT_.out (by kernel_rfl)) (fun _ _ _ h => h) (Or.inl ⟨by rfl, ?_⟩) ?_ ?_; rotate_left
    ·intro w'; (go_simp); with_reducible rfl
    rotate_left
    ·simp only [Act.put, List.setIfInBounds_toArray, List.set_cons_zero, List.set_cons_succ, i64_w, i32_w]; rfl
    refine take_ (i := 8) (N := some 23) (v := ?_) (a' := ?_) #[true, true, true, true, true, true, true, true, true, false, true, false, false, false, true, false, false, true, false, false, false, false, false, false, false, false] rfl rfl (take_ofW HT_.out HW_.out (by kernel_rfl)) (fun _ _ _ h => h) (Or.inl ⟨by rfl, ?_⟩) hHeld ?_ ?_; rotate_left
    ·rintro w' ⟨s0, s1, s2, s3⟩; (go_simp); with_reducible rfl
    rotate_left
    ·simp only [Act.put, List.setIfInBounds_toArray, List.set_cons_zero, List.set_cons_succ, i64_w, i32_w]; rfl
    refine take_ (i := 11) (N := some 26) (v := ?_) (a' := ?_) #[true, true, true, true, true, true, true, true, true, false, true, true, false, false, true, false, false, true, false, false, false, false, false, false, false, false] rfl rfl (take_ofW HT_.out HW_.out (by kernel_rfl)) (fun _ _ _ h => h) (Or.inl ⟨by rfl, ?_⟩) hHeld ?_ ?_; rotate_left
    ·rintro w' ⟨s0, s1, s2, s3⟩; (go_simp); with_reducible rfl
    rotate_left
    ·simp only [Act.put, List.setIfInBounds_toArray, List.set_cons_zero, List.set_cons_succ, i64_w, i32_w]; rfl
    refine take_ (i := 15) (N := some 30) (v := ?_) (a' := ?_) #[true, true, true, true, true, true, true, true, true, false, true, true, false, false, true, true, false, true, false, false, false, false, false, false, false, false] rfl rfl (take_ofW HT_.out HW_.out (by kernel_rfl)) (fun _ _ _ h => h) (Or.inl ⟨by rfl, ?_⟩) hHeld ?_ ?_; rotate_left
    ·rintro w' ⟨s0, s1, s2, s3⟩; (go_simp); with_reducible rfl
    rotate_left
    ·simp only [Act.put, List.setIfInBounds_toArray, List.set_cons_zero, List.set_cons_succ, i64_w, i32_w]; rfl
    refine take_ (i := 18) (N := some 33) (v := ?_) (a' := ?_) #[true, true, true, true, true, true, true, true, true, false, true, true, false, false, true, true, false, true, true, false, false, false, false, false, false, false] rfl rfl (take_ofW HT_.out HW_.out (by kernel_rfl)) (fun _ _ _ h => h) (Or.inl ⟨by rfl, ?_⟩) hHeld ?_ ?_; rotate_left
    ·rintro w' ⟨s0, s1, s2, s3⟩; (go_simp); with_reducible rfl
    rotate_left
    ·simp only [Act.put, List.setIfInBounds_toArray, List.set_cons_zero, List.set_cons_succ, i64_w, i32_w]; rfl
    refine one_ (i := 9) (N := some 24) #[true, true, true, true, true, true, true, true, true, true, true, true, false, false, true, true, false, true, true, false, false, false, false, false, false, false] rfl rfl (one_of HT_.out (by kernel_rfl)) (by decide) (fun K hK => ?_); refine gz Try.func51 #[.int .i64 a0_0] ?_; (with_reducible refine (r1_Size.calls a0_0 t375 _ A25.out).mono ?_); rintro e w' ⟨rfl, ⟨nd, rfl⟩⟩; refine ⟨_, rfl, ?_⟩; refine hK.out _ _ ⟨bc BK370 0, bc BK370 1, bc BK371 0, bc BK371 1⟩ (fun hHeld => ?_); clear hK K; refine norm_ (a' := ?_) ?_ ?_; rotate_left
    ·show Act.put _ (some 24) _ = _; simp only [Act.put, List.setIfInBounds_toArray, List.set_cons_zero, List.set_cons_succ, i64_w, i32_w]; rfl
    refine one_ (i := 12) (N := some 27) #[true, true, true, true, true, true, true, true, true, true, true, true, true, false, true, true, false, true, true, false, false, false, false, false, false, false] rfl rfl (one_of HT_.out (by kernel_rfl)) (by decide) (fun K hK => ?_); refine gz Try.func51 #[.int .i64 a1_0] ?_; (with_reducible refine (r1_Size.calls a1_0 t376 _ A26.out).mono ?_); rintro e w' ⟨rfl, ⟨nd, rfl⟩⟩; refine ⟨_, rfl, ?_⟩; refine hK.out _ _ ⟨bc BK370 0, bc BK370 1, bc BK371 0, bc BK371 1⟩ (fun hHeld => ?_); clear hK K; refine norm_ (a' := ?_) ?_ ?_; rotate_left
    ·show Act.put _ (some 27) _ = _; simp only [Act.put, List.setIfInBounds_toArray, List.set_cons_zero, List.set_cons_succ, i64_w, i32_w]; rfl
    refine one_ (i := 13) (N := some 28) #[true, true, true, true, true, true, true, true, true, true, true, true, true, true, true, true, false, true, true, false, false, false, false, false, false, false] rfl rfl (one_of HT_.out (by kernel_rfl)) (by decide) (fun K hK => ?_); refine gz Try.func58 #[.int .u64 t375, .int .u64 t376] ?_; (with_reducible refine (r1_Product.calls t375 t376 t377 t378 _ A27.out).mono ?_); rintro e w33 ⟨rfl, hb⟩; refine ⟨_, rfl, ?_⟩; have n0_ := kb BK370 hb; have n1_ := kb BK371 hb; have n2_ := kb BK372 hb; have n3_ := wb HB hb; clear BK370; clear BK371; clear BK372; clear HB; have BK370 := n0_; have BK371 := n1_; have BK372 := n2_; have HB := n3_; clear n0_ n1_ n2_ n3_; (try clear hb); (try clear hb2); (try clear hk); (try clear hi); refine hK.out _ _ ⟨bc BK370 0, bc BK370 1, bc BK371 0, bc BK371 1⟩ (fun hHeld => ?_); clear hK K; refine norm_ (a' := ?_) ?_ ?_; rotate_left
    ·show Act.put _ (some 28) _ = _; simp only [Act.put, List.setIfInBounds_toArray, List.set_cons_zero, List.set_cons_succ, i64_w, i32_w]; rfl
    refine one_ (i := 16) (N := some 31) #[true, true, true, true, true, true, true, true, true, true, true, true, true, true, true, true, true, true, true, false, false, false, false, false, false, false] rfl rfl (one_of HT_.out (by kernel_rfl)) (by decide) (fun K hK => ?_); refine gz Try.func51 #[.int .i64 a0_1] ?_; (with_reducible refine (r1_Size.calls a0_1 t379 _ A28.out).mono ?_); rintro e w' ⟨rfl, ⟨nd, rfl⟩⟩; refine ⟨_, rfl, ?_⟩; refine hK.out _ _ ⟨bc BK370 0, bc BK370 1, bc BK371 0, bc BK371 1⟩ (fun hHeld => ?_); clear hK K; refine norm_ (a' := ?_) ?_ ?_; rotate_left
    ·show Act.put _ (some 31) _ = _; simp only [Act.put, List.setIfInBounds_toArray, List.set_cons_zero, List.set_cons_succ, i64_w, i32_w]; rfl
    refine one_ (i := 19) (N := some 34) #[true, true, true, true, true, true, true, true, true, true, true, true, true, true, true, true, true, true, true, true, false, false, false, false, false, false] rfl rfl (one_of HT_.out (by kernel_rfl)) (by decide) (fun K hK => ?_); refine gz Try.func51 #[.int .i64 a1_1] ?_; (with_reducible refine (r1_Size.calls a1_1 t380 _ A29.out).mono ?_); rintro e w' ⟨rfl, ⟨nd, rfl⟩⟩; refine ⟨_, rfl, ?_⟩; refine hK.out _ _ ⟨bc BK370 0, bc BK370 1, bc BK371 0, bc BK371 1⟩ (fun hHeld => ?_); clear hK K; refine norm_ (a' := ?_) ?_ ?_; rotate_left
    ·show Act.put _ (some 34) _ = _; simp only [Act.put, List.setIfInBounds_toArray, List.set_cons_zero, List.set_cons_succ, i64_w, i32_w]; rfl
    refine one_ (i := 20) (N := some 35) #[true, true, true, true, true, true, true, true, true, true, true, true, true, true, true, true, true, true, true, true, true, false, false, false, false, false] rfl rfl (one_of HT_.out (by kernel_rfl)) (by decide) (fun K hK => ?_); refine gz Try.func58 #[.int .u64 t379, .int .u64 t380] ?_; (with_reducible refine (r1_Product.calls t379 t380 t381 t382 _ A30.out).mono ?_); rintro e w34 ⟨rfl, hb⟩; refine ⟨_, rfl, ?_⟩; have n0_ := kb BK370 hb; have n1_ := kb BK371 hb; have n2_ := kb BK372 hb; have n3_ := wb HB hb; clear BK370; clear BK371; clear BK372; clear HB; have BK370 := n0_; have BK371 := n1_; have BK372 := n2_; have HB := n3_; clear n0_ n1_ n2_ n3_; (try clear hb); (try clear hb2); (try clear hk); (try clear hi); refine hK.out _ _ ⟨bc BK370 0, bc BK370 1, bc BK371 0, bc BK371 1⟩ (fun hHeld => ?_); clear hK K; refine norm_ (a' := ?_) ?_ ?_; rotate_left
    ·show Act.put _ (some 35) _ = _; simp only [Act.put, List.setIfInBounds_toArray, List.set_cons_zero, List.set_cons_succ, i64_w, i32_w]; rfl
    refine one_ (i := 21) (N := some 36) #[true, true, true, true, true, true, true, true, true, true, true, true, true, true, true, true, true, true, true, true, true, true, false, false, false, false] rfl rfl (one_of HT_.out (by kernel_rfl)) (by decide) (fun K hK => ?_); refine gz Try.func50 #[.bool ((decide (a0_0 < 0)) != (decide (a1_0 < 0))), .agg #[.int .u64 t377, .int .u64 t378], .agg #[.int .u64 t381, .int .u64 t382]] ?_; (with_reducible refine (r1_Reduce.calls kj2 ((decide (a0_0 < 0)) != (decide (a1_0 < 0))) t377 t378 t381 t382 t383 t384 t385 _ A31.out).mono ?_); rintro e w35 ⟨rfl, hb⟩; refine ⟨_, rfl, ?_⟩; have n0_ := kb BK370 hb; have n1_ := kb BK371 hb; have n2_ := kb BK372 hb; have n3_ := wb HB hb; clear BK370; clear BK371; clear BK372; clear HB; have BK370 := n0_; have BK371 := n1_; have BK372 := n2_; have HB := n3_; clear n0_ n1_ n2_ n3_; (try clear hb); (try clear hb2); (try clear hk); (try clear hi); refine hK.out _ _ ⟨bc BK370 0, bc BK370 1, bc BK371 0, bc BK371 1⟩ (fun hHeld => ?_); clear hK K; refine norm_ (a' := ?_) ?_ ?_; rotate_left
    ·show Act.put _ (some 36) _ = _; simp only [Act.put, List.setIfInBounds_toArray, List.set_cons_zero, List.set_cons_succ, i64_w, i32_w]; rfl
    refine pure_ (i := 22) (N := some 37) (v := ?_) (a' := ?_) #[true, true, true, true, true, true, true, true, true, true, true, true, true, true, true, true, true, true, true, true, true, true, true, false, false, false] rfl rfl (any_of HT_.out (by kernel_rfl)) (fun _ _ _ h => h) (Or.inl ⟨by rfl, ?_⟩) ?_ ?_; rotate_left
    ·intro w'; (go_simp); with_reducible rfl
    rotate_left
    ·simp only [Act.put, List.setIfInBounds_toArray, List.set_cons_zero, List.set_cons_succ, i64_w, i32_w]; rfl
    refine pure_ (i := 23) (N := some 38) (v := ?_) (a' := ?_) #[true, true, true, true, true, true, true, true, true, true, true, true, true, true, true, true, true, true, true, true, true, true, true, true, false, false] rfl rfl (any_of HT_.out (by kernel_rfl)) (fun _ _ _ h => h) (Or.inl ⟨by rfl, ?_⟩) ?_ ?_; rotate_left
    ·intro w'; (go_simp); with_reducible rfl
    rotate_left
    ·simp only [Act.put, List.setIfInBounds_toArray, List.set_cons_zero, List.set_cons_succ, i64_w, i32_w]; rfl
    refine one_ (i := 24) (N := none) #[true, true, true, true, true, true, true, true, true, true, true, true, true, true, true, true, true, true, true, true, true, true, true, true, true, false] rfl rfl (one_of HT_.out (by kernel_rfl)) (by decide) (fun K hK => ?_); have hs36 : w35.cell? ⟨gb372, 0, none⟩ = some (.int .i64 0) := bc BK372 0; have hfs36 := blk_frozen BK372.out 0; have hns36_0 := NB370_372.out; have hns36_1 := NB371_372.out; have hms36_0 := NB372_370.out; have hms36_1 := NB372_371.out; have hs37 : w35.cell? ⟨gb372, 1, none⟩ = some (.int .i64 0) := bc BK372 1; have hfs37 := blk_frozen BK372.out 1; have hns37_0 := NB370_372.out; have hns37_1 := NB371_372.out; have hms37_0 := NB372_370.out; have hms37_1 := NB372_371.out; refine skip_ (w1 := ?_) (by rfl) rfl ?_ ?_; rotate_left
    ·(go_simp); rfl
    refine hK.out _ _ ⟨((cell_far (p := ⟨gb372, _, none⟩) NB370_372.out _).trans (((cell_far (p := ⟨gb372, _, none⟩) NB370_372.out _).trans (hHeld.1)))), ((cell_far (p := ⟨gb372, _, none⟩) NB370_372.out _).trans (((cell_far (p := ⟨gb372, _, none⟩) NB370_372.out _).trans (hHeld.2.1)))), ((cell_far (p := ⟨gb372, _, none⟩) NB371_372.out _).trans (((cell_far (p := ⟨gb372, _, none⟩) NB371_372.out _).trans (hHeld.2.2.1)))), ((cell_far (p := ⟨gb372, _, none⟩) NB371_372.out _).trans (((cell_far (p := ⟨gb372, _, none⟩) NB371_372.out _).trans (hHeld.2.2.2))))⟩ (fun hHeld => ?_); clear hK K; refine pure_ (i := 25) (N := some 5) (v := ?_) (a' := ?_) #[true, true, true, true, true, true, true, true, true, true, true, true, true, true, true, true, true, true, true, true, true, true, true, true, true, true] rfl rfl (any_of HT_.out (by kernel_rfl)) (fun _ _ _ h => h) (Or.inl ⟨by rfl, ?_⟩) ?_ ?_; rotate_left
    ·intro w'; (go_simp); with_reducible rfl
    rotate_left
    ·simp only [Act.put, List.setIfInBounds_toArray, List.set_cons_zero, List.set_cons_succ, i64_w, i32_w]; rfl
    refine done_ (done_of HT_.out (by kernel_rfl)) ?_; (try go_wp2); refine bodyPost_ret (results_ct rfl _ _ gb372 35 #[.int .i64 t383, .int .i64 t384] (0, 0) _ rfl (by refine pe ?_; refine blk_put (cs := #[.int .i64 t383, .int .i64 0]) ?_ 1 _ rfl; refine pe ?_; refine blk_put (cs := #[.int .i64 0, .int .i64 0]) ?_ 0 _ rfl; refine pe ?_; exact BK372.out) Try.underlying35 rfl (by kernel_rfl)) rfl ?_; exact ⟨by first | rfl | (simp [errW_none, errW_some] <;> rfl) | (simp [*, errW_none, errW_some] <;> rfl), bw HB⟩

end Go.Proofs.Ytcbohbeipgcfhaa.G

-- Printed by gp.py (a program of this session's own, over the kit's printer) out of the translation; Lean checks it.
namespace Go.Proofs.Ytcbohbeipgcfhaa.G
open Go.Proofs.Ytcbohbeipgcfhaa.Given Go.Proofs.Ytcbohbeipgcfhaa.Short
open Go.RowKit Go.Proofs.YtcbohbeipgcfhaaW.PrintWords Go.Proofs.YtcbohbeipgcfhaaW.PrintLast Go.Proofs.YtcbohbeipgcfhaaW.PrintMore
attribute [local go_sem] max2_int min2_int max_two min_two max_three min_three max_four min_four   -- for this text's walks alone
set_option linter.unusedVariables false
set_option linter.unusedSimpArgs false

/-! ### ratio_Div: function 29 -/
def ratio_Div.j0 : Nat → Bool → Int → Int → Int → Int → Option (Int × Int × Int)
 | 0, _, _, _, _, _ => none
 | k + 1, x14, x387000, x387001, x388000, x388001 => if x14 = true then (some (0, 0, 1)) else (if x388000 = 0 then (some (0, 0, 2)) else (if x388000 < 0 then ((ratio_Mul.f k x387000 x387001 (wrap64 (-x388001)) (wrap64 (-x388000))).bind fun bt392 => (some (bt392.1, bt392.2.1, bt392.2.2))) else ((ratio_Mul.f k x387000 x387001 x388001 x388000).bind fun bt395 => (some (bt395.1, bt395.2.1, bt395.2.2)))))
def ratio_Div.f (k : Nat) (a0_0 : Int) (a0_1 : Int) (a1_0 : Int) (a1_1 : Int) : Option (Int × Int × Int) := (ratio_Valid.f k a0_0 a0_1).bind fun t389 => (if t389 = true then ((ratio_Valid.f k a1_0 a1_1).bind fun t390 => (ratio_Div.j0 k (!t390) a0_0 a0_1 a1_0 a1_1)) else (ratio_Div.j0 k true a0_0 a0_1 a1_0 a1_1))
theorem ratio_Div.mono_l : ∀ k, (∀ y0 y1 y2 y3 y4, LeO (ratio_Div.j0 k y0 y1 y2 y3 y4) (ratio_Div.j0 (k + 1) y0 y1 y2 y3 y4))
 | 0 => fun _ _ _ _ _ r h => by simp [ratio_Div.j0] at h
 | k + 1 => by
  have ih0 := ratio_Div.mono_l k
  ·intro y0 y1 y2 y3 y4; unfold ratio_Div.j0
   repeat' first
   | (with_reducible exact ih0 _ _ _ _ _)
   | (with_reducible exact ratio_Mul.mono _ _ _ _ _)
   | (with_reducible exact ratio_Valid.mono _ _ _)
   | (with_reducible exact LeO.refl _)
   | (with_reducible exact LeO.none _)
   | (with_reducible refine LeO.ite ?_ ?_)
   | (with_reducible refine LeO.bind ?_ (fun _ => ?_))
   | exact ih0 _ _ _ _ _
   | exact ratio_Mul.mono _ _ _ _ _
   | exact ratio_Valid.mono _ _ _
   | exact LeO.none _
   | refine LeO.ite ?_ ?_
   | refine LeO.bind ?_ (fun _ => ?_)
theorem ratio_Div.mono : ∀ a0 a1 a2 a3 k, LeO (ratio_Div.f k a0 a1 a2 a3) (ratio_Div.f (k + 1) a0 a1 a2 a3) := by
 intro a0 a1 a2 a3 k; have ih0 := ratio_Div.mono_l k; unfold ratio_Div.f
 repeat' first
   | (with_reducible exact ih0 _ _ _ _ _)
   | (with_reducible exact ratio_Mul.mono _ _ _ _ _)
   | (with_reducible exact ratio_Valid.mono _ _ _)
   | (with_reducible exact LeO.refl _)
   | (with_reducible exact LeO.none _)
   | (with_reducible refine LeO.ite ?_ ?_)
   | (with_reducible refine LeO.bind ?_ (fun _ => ?_))
   | exact ih0 _ _ _ _ _
   | exact ratio_Mul.mono _ _ _ _ _
   | exact ratio_Valid.mono _ _ _
   | exact LeO.none _
   | refine LeO.ite ?_ ?_
   | refine LeO.bind ?_ (fun _ => ?_)
set_option maxHeartbeats 8000000 in
set_option maxRecDepth 100000 in
theorem ratio_Div.calls (k : Nat) (a0_0 : Int) (a0_1 : Int) (a1_0 : Int) (a1_1 : Int) (r1 : Int) (r2 : Int) (r3 : Int) (w : World) (h : ratio_Div.f k a0_0 a0_1 a1_0 a1_1 = some (r1, r2, r3)) :
  Calls Try.prog 29 #[.agg #[.int .i64 a0_0, .int .i64 a0_1], .agg #[.int .i64 a1_0, .int .i64 a1_1]] w fun e w' => e = .returned (.tuple #[.agg #[.int .i64 r1, .int .i64 r2], .int .i64 r3]) ∧ Below w.heap.size w w' := by
 have hu35 := Try.underlying35; have HB := Aside0.mk (Below.refl w.heap.size w); have H : ((ratio_Valid.f k a0_0 a0_1).bind fun t389 => (if t389 = true then ((ratio_Valid.f k a1_0 a1_1).bind fun t390 => (ratio_Div.j0 k (!t390) a0_0 a0_1 a1_0 a1_1)) else (ratio_Div.j0 k true a0_0 a0_1 a1_0 a1_1))) = some (r1, r2, r3) := h; clear h; have HC3 := Aside0.mk H; clear H; go_enter Try.func29, Try.ntmps29
 go_upto_region 1 with (first | ((with_reducible refine gate_dst (N := 2) rfl ?_); refine bx (N := 2) (cs := #[.int .i64 a0_0, .int .i64 a0_1]) (t := 35) ?_; intro gb386 hg w4 hbox hb; have BK386 := Aside0.mk (hbox); have GW386 := gs HB hg; have GE386 := gs HB hg; replace HB := wb HB hb; clear hb hbox hg) | ((with_reducible refine gate_dst (N := 3) rfl ?_); refine bx (N := 3) (cs := #[.int .i64 a1_0, .int .i64 a1_1]) (t := 35) ?_; intro gb387 hg w5 hbox hb; have BK387 := Aside0.mk (hbox); have GW387 := gs HB hg; have GE387 := gs HB hg; have NB386_387 := nl BK386 hg; have NB387_386 := nr BK386 hg; replace BK386 := kb BK386 hb; replace HB := wb HB hb; clear hb hbox hg) | ((with_reducible refine gate_dst (N := 4) rfl ?_); refine bx (N := 4) (cs := #[.int .i64 0, .int .i64 0]) (t := 35) ?_; intro gb388 hg w6 hbox hb; have BK388 := Aside0.mk (hbox); have GW388 := gs HB hg; have GE388 := gs HB hg; have NB386_388 := nl BK386 hg; have NB388_386 := nr BK386 hg; have NB387_388 := nl BK387 hg; have NB388_387 := nr BK387 hg; replace BK386 := kb BK386 hb; replace BK387 := kb BK387 hb; replace HB := wb HB hb; clear hb hbox hg))
 (try simp only [Act.put, List.setIfInBounds_toArray, List.set_cons_zero, List.set_cons_succ])
 go_cut [14] (fun v14 wc => ∃ (kq : Nat) (x14_2 : Bool), v14 = .bool x14_2 ∧ Aside0 (ratio_Div.j0 kq x14_2 a0_0 a0_1 a1_0 a1_1 = some (r1, r2, r3)) ∧ Aside0 (kq ≤ k) ∧ Aside0 (wc.heap[gb386]? = some (.cells #[.int .i64 a0_0, .int .i64 a0_1] 35 (0, 0))) ∧ Aside0 (wc.heap[gb387]? = some (.cells #[.int .i64 a1_0, .int .i64 a1_1] 35 (0, 0))) ∧ Aside0 (wc.heap[gb388]? = some (.cells #[.int .i64 0, .int .i64 0] 35 (0, 0))) ∧ Aside0 (Below w.heap.size w wc))
 case first =>
  have H := HC3.out; clear HC3; replace H := Option.bind_eq_some_iff.mp H; obtain ⟨t389, A70, H⟩ := H; (try dsimp only at H); have A7 := Aside0.mk A70; clear A70
  by_cases c8 : t389 = true
  ·subst c8; (have H1 : ((ratio_Valid.f k a1_0 a1_1).bind fun t390 => (ratio_Div.j0 k (!t390) a0_0 a0_1 a1_0 a1_1)) = some (r1, r2, r3) := by rw [if_pos rfl] at H; exact H); clear H; have H := H1; clear H1; replace H := Option.bind_eq_some_iff.mp H; obtain ⟨t390, A90, H⟩ := H; (try dsimp only at H); have A9 := Aside0.mk A90; clear A90; have H' := Aside0.mk H; clear H; obtain ⟨hnb10, hnc10⟩ := n2 NB386_387; obtain ⟨hnb11, hnc11⟩ := n2 NB386_388; have hcz12_0 : w6.cell? ⟨gb386, 0, none⟩ = some (.int .i64 a0_0) := bc BK386 0; have hcz12_1 : w6.cell? ⟨gb386, 1, none⟩ = some (.int .i64 a0_1) := bc BK386 1; have hfz12_0 := blk_frozen BK386.out 0; have hfz12_1 := blk_frozen BK386.out 1; go_wp2_with (first | ((with_reducible refine gate_callee (f := 24) rfl ?_); refine gl (some 8) Try.func24 #[.agg #[.int .i64 a0_0, .int .i64 a0_1]] ?_; (with_reducible refine (ratio_Valid.calls k a0_0 a0_1 true _ A7.out).mono ?_); rintro e w13 ⟨rfl, hb⟩; refine ⟨_, rfl, ?_⟩; replace BK386 := kb BK386 hb; replace BK387 := kb BK387 hb; replace BK388 := kb BK388 hb; replace HB := wb HB hb; (try clear hb); (try clear hb2); (try clear hk); (try clear hi); obtain ⟨hnb14, hnc14⟩ := n2 NB387_388; have hcz15_0 : w13.cell? ⟨gb387, 0, none⟩ = some (.int .i64 a1_0) := bc BK387 0; have hcz15_1 : w13.cell? ⟨gb387, 1, none⟩ = some (.int .i64 a1_1) := bc BK387 1; have hfz15_0 := blk_frozen BK387.out 0; have hfz15_1 := blk_frozen BK387.out 1) | (go_at_call 24; (with_reducible refine (ratio_Valid.calls k a1_0 a1_1 t390 _ A9.out).mono ?_); rintro e w16 ⟨rfl, hb⟩; replace BK386 := kb BK386 hb; replace BK387 := kb BK387 hb; replace BK388 := kb BK388 hb; replace HB := wb HB hb; (try clear hb); (try clear hb2); (try clear hk); (try clear hi)))
   go_meet
   case rel => exact ⟨_, (!t390), (by first | rfl | (simp; done) | (simp [*]; done)), H', ⟨by first | omega | exact Nat.le_refl _⟩, ⟨bq BK386⟩, ⟨bq BK387⟩, ⟨bq BK388⟩, ⟨bw HB⟩⟩
  ·replace c8 := Bool.eq_false_iff.mpr c8; subst c8; (have H1 : (ratio_Div.j0 k true a0_0 a0_1 a1_0 a1_1) = some (r1, r2, r3) := by rw [if_neg (show ¬ (false = true) by decide)] at H; exact H); clear H; have H := H1; clear H1; have H' := Aside0.mk H; clear H; obtain ⟨hnb17, hnc17⟩ := n2 NB386_387; obtain ⟨hnb18, hnc18⟩ := n2 NB386_388; have hcz19_0 : w6.cell? ⟨gb386, 0, none⟩ = some (.int .i64 a0_0) := bc BK386 0; have hcz19_1 : w6.cell? ⟨gb386, 1, none⟩ = some (.int .i64 a0_1) := bc BK386 1; have hfz19_0 := blk_frozen BK386.out 0; have hfz19_1 := blk_frozen BK386.out 1; go_wp2_with (first | ((with_reducible refine gate_callee (f := 24) rfl ?_); refine gl (some 8) Try.func24 #[.agg #[.int .i64 a0_0, .int .i64 a0_1]] ?_; (with_reducible refine (ratio_Valid.calls k a0_0 a0_1 false _ A7.out).mono ?_); rintro e w20 ⟨rfl, hb⟩; refine ⟨_, rfl, ?_⟩; replace BK386 := kb BK386 hb; replace BK387 := kb BK387 hb; replace BK388 := kb BK388 hb; replace HB := wb HB hb; (try clear hb); (try clear hb2); (try clear hk); (try clear hi)))
   go_meet
   case rel => exact ⟨_, (true), (by first | rfl | (simp; done) | (simp [*]; done)), H', ⟨by first | omega | exact Nat.le_refl _⟩, ⟨bq BK386⟩, ⟨bq BK387⟩, ⟨bq BK388⟩, ⟨bw HB⟩⟩
 case rest =>
  clear HC3; (try clear c1); (try clear c2); (try clear p2); (try clear c8); (try clear c10); (try clear c11); (try clear c14); (try clear c17); (try clear c18); (try clear hcz12_0); (try clear hcz12_1); (try clear hcz15_0); (try clear hcz15_1); (try clear hcz19_0); (try clear hcz19_1); (try clear hfz12_0); (try clear hfz12_1); (try clear hfz15_0); (try clear hfz15_1); (try clear hfz19_0); (try clear hfz19_1); obtain ⟨kq, x14_2, rfl, HA, HJ2, BK386, BK387, BK388, HB⟩ := hcut
  cases kq with
  | zero => exact absurd HA.out (by simp [ratio_Div.j0])
  | succ kj2 =>
   have H := HA.out; clear HA; simp only [ratio_Div.j0] at H
   by_cases c21 : x14_2 = true
   ·subst c21; (have H1 : (some (0, 0, 1)) = some (r1, r2, r3) := by rw [if_pos rfl] at H; exact H); clear H; have H := H1; clear H1; simp only [Option.some.injEq, Prod.mk.injEq] at H; obtain ⟨rfl, rfl, rfl⟩ := H; obtain ⟨hnb22, hnc22⟩ := n2 NB388_386; obtain ⟨hnb23, hnc23⟩ := n2 NB388_387; have hcz24_0 : wc.cell? ⟨gb388, 0, none⟩ = some (.int .i64 0) := bc BK388 0; have hcz24_1 : wc.cell? ⟨gb388, 1, none⟩ = some (.int .i64 0) := bc BK388 1; have hfz24_0 := blk_frozen BK388.out 0; have hfz24_1 := blk_frozen BK388.out 1; (go_wp2); refine bodyPost_ret (results_ct rfl _ _ gb388 35 #[.int .i64 0, .int .i64 0] (0, 0) _ rfl (by refine pe ?_; refine blk_put (cs := #[.int .i64 0, .int .i64 0]) ?_ 1 _ rfl; refine pe ?_; refine blk_put (cs := #[.int .i64 0, .int .i64 0]) ?_ 0 _ rfl; refine pe ?_; exact BK388.out) Try.underlying35 rfl (by kernel_rfl)) rfl ?_; exact ⟨by first | rfl | (simp [errW_none, errW_some] <;> rfl) | (simp [*, errW_none, errW_some] <;> rfl), bw HB⟩
   ·replace c21 := Bool.eq_false_iff.mpr c21; subst c21; (have H1 : (if a1_0 = 0 then (some (0, 0, 2)) else (if a1_0 < 0 then ((ratio_Mul.f kj2 a0_0 a0_1 (wrap64 (-a1_1)) (wrap64 (-a1_0))).bind fun bt392 => (some (bt392.1, bt392.2.1, bt392.2.2))) else ((ratio_Mul.f kj2 a0_0 a0_1 a1_1 a1_0).bind fun bt395 => (some (bt395.1, bt395.2.1, bt395.2.2))))) = some (r1, r2, r3) := by rw [if_neg (show ¬ (false = true) by decide)] at H; exact H); clear H; have H := H1; clear H1
    by_cases c25 : a1_0 = 0
    ·rw [if_pos c25] at H; have c25b0 : (a1_0 == 0) = true := beq_iff_eq.mpr c25; have c25b1 : (a1_0 != 0) = false := bne_eq_false_iff_eq.mpr c25; clear c25; simp only [Option.some.injEq, Prod.mk.injEq] at H; obtain ⟨rfl, rfl, rfl⟩ := H; obtain ⟨hnb26, hnc26⟩ := n2 NB387_386; obtain ⟨hnb27, hnc27⟩ := n2 NB387_388; have hcz28_0 : wc.cell? ⟨gb387, 0, none⟩ = some (.int .i64 a1_0) := bc BK387 0; have hcz28_1 : wc.cell? ⟨gb387, 1, none⟩ = some (.int .i64 a1_1) := bc BK387 1; have hfz28_0 := blk_frozen BK387.out 0; have hfz28_1 := blk_frozen BK387.out 1; obtain ⟨hnb29, hnc29⟩ := n2 NB388_386; have hcz30_0 : wc.cell? ⟨gb388, 0, none⟩ = some (.int .i64 0) := bc BK388 0; have hcz30_1 : wc.cell? ⟨gb388, 1, none⟩ = some (.int .i64 0) := bc BK388 1; have hfz30_0 := blk_frozen BK388.out 0; have hfz30_1 := blk_frozen BK388.out 1; (go_wp2); refine bodyPost_ret (results_ct rfl _ _ gb388 35 #[.int .i64 0, .int .i64 0] (0, 0) _ rfl (by refine pe ?_; refine blk_put (cs := #[.int .i64 0, .int .i64 0]) ?_ 1 _ rfl; refine pe ?_; refine blk_put (cs := #[.int .i64 0, .int .i64 0]) ?_ 0 _ rfl; refine pe ?_; exact BK388.out) Try.underlying35 rfl (by kernel_rfl)) rfl ?_; exact ⟨by first | rfl | (simp [errW_none, errW_some] <;> rfl) | (simp [*, errW_none, errW_some] <;> rfl), bw HB⟩
    ·rw [if_neg c25] at H; have c25b0 : (a1_0 == 0) = false := beq_eq_false_iff_ne.mpr c25; have c25b1 : (a1_0 != 0) = true := bne_iff_ne.mpr c25
     by_cases c31 : a1_0 < 0
     ·rw [if_pos c31] at H; have c31b0 : decide (a1_0 < 0) = true := decide_eq_true c31; clear c31; replace H := Option.bind_eq_some_iff.mp H; obtain ⟨⟨t392, t393, t394⟩, A320, H⟩ := H; (try dsimp only at H); have A32 := Aside0.mk A320; clear A320; simp only [Option.some.injEq, Prod.mk.injEq] at H; obtain ⟨rfl, rfl, rfl⟩ := H; obtain ⟨hnb33, hnc33⟩ := n2 NB387_386; obtain ⟨hnb34, hnc34⟩ := n2 NB387_388; have hcz35_0 : wc.cell? ⟨gb387, 0, none⟩ = some (.int .i64 a1_0) := bc BK387 0; have hcz35_1 : wc.cell? ⟨gb387, 1, none⟩ = some (.int .i64 a1_1) := bc BK387 1; have hfz35_0 := blk_frozen BK387.out 0; have hfz35_1 := blk_frozen BK387.out 1; (go_wp2_with (first | ((with_reducible refine gate_dst (N := 6) rfl ?_); refine bx (N := 6) (cs := #[.int .i64 0, .int .i64 0]) (t := 35) ?_; intro gb391 hg w36 hbox hb; have BK391 := Aside0.mk (hbox); have GW391 := gs HB hg; have GE391 := gs HB hg; have NB386_391 := nl BK386 hg; have NB391_386 := nr BK386 hg; have NB387_391 := nl BK387 hg; have NB391_387 := nr BK387 hg; have NB388_391 := nl BK388 hg; have NB391_388 := nr BK388 hg; replace BK386 := kb BK386 hb; replace BK387 := kb BK387 hb; replace BK388 := kb BK388 hb; replace HB := wb HB hb; clear hb hbox hg; obtain ⟨hnb37, hnc37⟩ := n2 NB391_386; obtain ⟨hnb38, hnc38⟩ := n2 NB391_387; obtain ⟨hnb39, hnc39⟩ := n2 NB391_388; have hcz40_0 : w36.cell? ⟨gb391, 0, none⟩ = some (.int .i64 0) := bc BK391 0; have hcz40_1 : w36.cell? ⟨gb391, 1, none⟩ = some (.int .i64 0) := bc BK391 1; have hfz40_0 := blk_frozen BK391.out 0; have hfz40_1 := blk_frozen BK391.out 1; have hcz41_0 : w36.cell? ⟨gb387, 0, none⟩ = some (.int .i64 a1_0) := bc BK387 0; have hcz41_1 : w36.cell? ⟨gb387, 1, none⟩ = some (.int .i64 a1_1) := bc BK387 1; have hfz41_0 := blk_frozen BK387.out 0; have hfz41_1 := blk_frozen BK387.out 1; obtain ⟨hnb42, hnc42⟩ := n2 NB386_388; have hcz43_0 : w36.cell? ⟨gb386, 0, none⟩ = some (.int .i64 a0_0) := bc BK386 0; have hcz43_1 : w36.cell? ⟨gb386, 1, none⟩ = some (.int .i64 a0_1) := bc BK386 1; have hfz43_0 := blk_frozen BK386.out 0; have hfz43_1 := blk_frozen BK386.out 1; have BKz : Aside0 (((w36.setCell ⟨gb391, 0, none⟩ (.int .i64 a1_1)).setCell ⟨gb391, 1, none⟩ (.int .i64 a1_0)).heap[gb391]? = some (.cells #[.int .i64 a1_1, .int .i64 a1_0] 35 (0, 0))) := ⟨by refine pe ?_; refine blk_put (cs := #[.int .i64 a1_1, .int .i64 0]) ?_ 1 _ rfl; refine pe ?_; refine blk_put (cs := #[.int .i64 0, .int .i64 0]) ?_ 0 _ rfl; refine pe ?_; exact BK391.out⟩; have hczz : ((w36.setCell ⟨gb391, 0, none⟩ (.int .i64 a1_1)).setCell ⟨gb391, 1, none⟩ (.int .i64 a1_0)).cell? ⟨gb391, 1, none⟩ = some (.int .i64 a1_0) := bc BKz 1) | ((with_reducible refine gate_callee (f := 27) rfl ?_); refine gl (some 37) Try.func27 #[.agg #[.int .i64 a0_0, .int .i64 a0_1], .agg #[.int .i64 (wrap64 (-a1_1)), .int .i64 (wrap64 (-a1_0))]] ?_; (with_reducible refine (ratio_Mul.calls kj2 a0_0 a0_1 (wrap64 (-a1_1)) (wrap64 (-a1_0)) t392 t393 t394 _ A32.out).mono ?_); rintro e w44 ⟨rfl, hb⟩; refine ⟨_, rfl, ?_⟩; replace BK386 := kb BK386 hb; replace BK387 := kb BK387 hb; replace BK388 := kb BK388 hb; replace BK391 := Aside0.mk (blk_below (g := gb391) (o := .cells #[.int .i64 (wrap64 (-a1_1)), .int .i64 (wrap64 (-a1_0))] 35 (0, 0)) (by refine pe ?_; refine blk_put (cs := #[.int .i64 (wrap64 (-a1_1)), .int .i64 a1_0]) ?_ 1 _ rfl; refine pe ?_; refine blk_put (cs := #[.int .i64 a1_1, .int .i64 a1_0]) ?_ 0 _ rfl; refine pe ?_; refine blk_put (cs := #[.int .i64 a1_1, .int .i64 0]) ?_ 1 _ rfl; refine pe ?_; refine blk_put (cs := #[.int .i64 0, .int .i64 0]) ?_ 0 _ rfl; refine pe ?_; exact BK391.out) hb); replace HB := wb HB hb; (try clear hb); (try clear hb2); (try clear hk); (try clear hi); have hcz45_0 : w44.cell? ⟨gb388, 0, none⟩ = some (.int .i64 0) := bc BK388 0; have hcz45_1 : w44.cell? ⟨gb388, 1, none⟩ = some (.int .i64 0) := bc BK388 1; have hfz45_0 := blk_frozen BK388.out 0; have hfz45_1 := blk_frozen BK388.out 1))); refine bodyPost_ret (results_ct rfl _ _ gb388 35 #[.int .i64 t392, .int .i64 t393] (0, 0) _ rfl (by refine pe ?_; refine blk_put (cs := #[.int .i64 t392, .int .i64 0]) ?_ 1 _ rfl; refine pe ?_; refine blk_put (cs := #[.int .i64 0, .int .i64 0]) ?_ 0 _ rfl; refine pe ?_; exact BK388.out) Try.underlying35 rfl (by kernel_rfl)) rfl ?_; exact ⟨by first | rfl | (simp [errW_none, errW_some] <;> rfl) | (simp [*, errW_none, errW_some] <;> rfl), bw HB⟩
     ·rw [if_neg c31] at H; have c31b0 : decide (a1_0 < 0) = false := decide_eq_false c31; clear c31; replace H := Option.bind_eq_some_iff.mp H; obtain ⟨⟨t395, t396, t397⟩, A460, H⟩ := H; (try dsimp only at H); have A46 := Aside0.mk A460; clear A460; simp only [Option.some.injEq, Prod.mk.injEq] at H; obtain ⟨rfl, rfl, rfl⟩ := H; obtain ⟨hnb47, hnc47⟩ := n2 NB387_386; obtain ⟨hnb48, hnc48⟩ := n2 NB387_388; have hcz49_0 : wc.cell? ⟨gb387, 0, none⟩ = some (.int .i64 a1_0) := bc BK387 0; have hcz49_1 : wc.cell? ⟨gb387, 1, none⟩ = some (.int .i64 a1_1) := bc BK387 1; have hfz49_0 := blk_frozen BK387.out 0; have hfz49_1 := blk_frozen BK387.out 1; (go_wp2_with (first | ((with_reducible refine gate_dst (N := 6) rfl ?_); refine bx (N := 6) (cs := #[.int .i64 0, .int .i64 0]) (t := 35) ?_; intro gb391 hg w50 hbox hb; have BK391 := Aside0.mk (hbox); have GW391 := gs HB hg; have GE391 := gs HB hg; have NB386_391 := nl BK386 hg; have NB391_386 := nr BK386 hg; have NB387_391 := nl BK387 hg; have NB391_387 := nr BK387 hg; have NB388_391 := nl BK388 hg; have NB391_388 := nr BK388 hg; replace BK386 := kb BK386 hb; replace BK387 := kb BK387 hb; replace BK388 := kb BK388 hb; replace HB := wb HB hb; clear hb hbox hg; obtain ⟨hnb51, hnc51⟩ := n2 NB391_386; obtain ⟨hnb52, hnc52⟩ := n2 NB391_387; obtain ⟨hnb53, hnc53⟩ := n2 NB391_388; have hcz54_0 : w50.cell? ⟨gb391, 0, none⟩ = some (.int .i64 0) := bc BK391 0; have hcz54_1 : w50.cell? ⟨gb391, 1, none⟩ = some (.int .i64 0) := bc BK391 1; have hfz54_0 := blk_frozen BK391.out 0; have hfz54_1 := blk_frozen BK391.out 1; have hcz55_0 : w50.cell? ⟨gb387, 0, none⟩ = some (.int .i64 a1_0) := bc BK387 0; have hcz55_1 : w50.cell? ⟨gb387, 1, none⟩ = some (.int .i64 a1_1) := bc BK387 1; have hfz55_0 := blk_frozen BK387.out 0; have hfz55_1 := blk_frozen BK387.out 1; obtain ⟨hnb56, hnc56⟩ := n2 NB386_388; have hcz57_0 : w50.cell? ⟨gb386, 0, none⟩ = some (.int .i64 a0_0) := bc BK386 0; have hcz57_1 : w50.cell? ⟨gb386, 1, none⟩ = some (.int .i64 a0_1) := bc BK386 1; have hfz57_0 := blk_frozen BK386.out 0; have hfz57_1 := blk_frozen BK386.out 1) | ((with_reducible refine gate_callee (f := 27) rfl ?_); refine gl (some 37) Try.func27 #[.agg #[.int .i64 a0_0, .int .i64 a0_1], .agg #[.int .i64 a1_1, .int .i64 a1_0]] ?_; (with_reducible refine (ratio_Mul.calls kj2 a0_0 a0_1 a1_1 a1_0 t395 t396 t397 _ A46.out).mono ?_); rintro e w58 ⟨rfl, hb⟩; refine ⟨_, rfl, ?_⟩; replace BK386 := kb BK386 hb; replace BK387 := kb BK387 hb; replace BK388 := kb BK388 hb; replace BK391 := Aside0.mk (blk_below (g := gb391) (o := .cells #[.int .i64 a1_1, .int .i64 a1_0] 35 (0, 0)) (by refine pe ?_; refine blk_put (cs := #[.int .i64 a1_1, .int .i64 0]) ?_ 1 _ rfl; refine pe ?_; refine blk_put (cs := #[.int .i64 0, .int .i64 0]) ?_ 0 _ rfl; refine pe ?_; exact BK391.out) hb); replace HB := wb HB hb; (try clear hb); (try clear hb2); (try clear hk); (try clear hi); have hcz59_0 : w58.cell? ⟨gb388, 0, none⟩ = some (.int .i64 0) := bc BK388 0; have hcz59_1 : w58.cell? ⟨gb388, 1, none⟩ = some (.int .i64 0) := bc BK388 1; have hfz59_0 := blk_frozen BK388.out 0; have hfz59_1 := blk_frozen BK388.out 1))); refine bodyPost_ret (results_ct rfl _ _ gb388 35 #[.int .i64 t395, .int .i64 t396] (0, 0) _ rfl (by refine pe ?_; refine blk_put (cs := #[.int .i64 t395, .int .i64 0]) ?_ 1 _ rfl; refine pe ?_; refine blk_put (cs := #[.int .i64 0, .int .i64 0]) ?_ 0 _ rfl; refine pe ?_; exact BK388.out) Try.underlying35 rfl (by kernel_rfl)) rfl ?_; exact ⟨by first | rfl | (simp [errW_none, errW_some] <;> rfl) | (simp [*, errW_none, errW_some] <;> rfl), bw HB⟩

end Go.Proofs.Ytcbohbeipgcfhaa.G
