/- Texts of this claim laid together: Gf58, Gf59, Gf31, Prs, Gf24, Gf68, Gf69, Gf70. -/
import Derived.Test.YtbapkiclgkddcaaGreatDoorShortC
import Derived.Test.YtbapkiclgkddcaaGreatDoorG0
import Derived.Test.YtbapkiclgkddcaaGreatDoorZBn1
import Derived.Test.YtbapkiclgkddcaaGreatDoorGivenS
import Derived.Test.YtbapkiclgkddcaaGreatDoorShort
import Derived.Test.YtbapkiclgkddcaaGreatDoorGiven
import Derived.Test.YtbapkiclgkddcaaGreatDoorGe1
import Derived.Laws.RangeString
import Derived.Deep.LoopGhost
import Derived.Lib.Strings
-- Printed by gp.py (a program of this session's own, over the kit's printer) out of the translation; Lean checks it.
namespace Go.Proofs.YtbapkiclgkddcaaGreatDoor.G
open Go.Proofs.YtbapkiclgkddcaaGreatDoor.Given Go.Proofs.YtbapkiclgkddcaaGreatDoor.Short
open Go.RowKit Go.Proofs.YtbapkiclgkddcaaGreatDoorW.PrintWords Go.Proofs.YtbapkiclgkddcaaGreatDoorW.PrintLast Go.Proofs.YtbapkiclgkddcaaGreatDoorW.PrintMore
attribute [local go_sem] max2_int min2_int max_two min_two max_three min_three max_four min_four   -- for this text's walks alone
set_option linter.unusedVariables false
set_option linter.unusedSimpArgs false

/-! ### bits_Rem64: function 58 -/
def bits_Rem64.f (k : Nat) (a0 : Int) (a1 : Int) (a2 : Int) : Option (Int) := if a2 = 0 then (none) else ((bits_Div64.f k (Int.tmod a0 a2) a1 a2).bind fun bt314 => (some bt314.2))
theorem bits_Rem64.mono : ∀ a0 a1 a2 k, LeO (bits_Rem64.f k a0 a1 a2) (bits_Rem64.f (k + 1) a0 a1 a2) := by
 intro a0 a1 a2 k; unfold bits_Rem64.f
 repeat' first
   | (with_reducible exact bits_Div64.mono _ _ _ _)
   | (with_reducible exact LeO.refl _)
   | (with_reducible exact LeO.none _)
   | (with_reducible refine LeO.ite ?_ ?_)
   | (with_reducible refine LeO.bind ?_ (fun _ => ?_))
   | exact bits_Div64.mono _ _ _ _
   | exact LeO.none _
   | refine LeO.ite ?_ ?_
   | refine LeO.bind ?_ (fun _ => ?_)
set_option maxHeartbeats 8000000 in
set_option maxRecDepth 100000 in
theorem bits_Rem64.calls (k : Nat) (a0 : Int) (a1 : Int) (a2 : Int) (r : Int) (w : World) (h : bits_Rem64.f k a0 a1 a2 = some r) :
  Calls Tryz.prog 58 #[.int .u64 a0, .int .u64 a1, .int .u64 a2] w fun e w' => e = .returned (.int .u64 r) ∧ Drawn0 w w' := by
 have H : (if a2 = 0 then (none) else ((bits_Div64.f k (Int.tmod a0 a2) a1 a2).bind fun bt314 => (some bt314.2))) = some r := h; clear h
 by_cases c4 : a2 = 0
 ·rw [if_pos c4] at H; exact absurd H (by simp)
 ·rw [if_neg c4] at H; have c4b0 : (a2 == 0) = false := beq_eq_false_iff_ne.mpr c4; have c4b1 : (a2 != 0) = true := bne_iff_ne.mpr c4; replace H := Option.bind_eq_some_iff.mp H; obtain ⟨⟨t314, t315⟩, A50, H⟩ := H; (try dsimp only at H); have A5 := Aside0.mk A50; clear A50; obtain rfl := Option.some.inj H; (go_enter Tryz.func58, Tryz.ntmps58); (go_wp2_with (first | ((with_reducible refine gate_callee (f := 37) rfl ?_); refine gl (some 15) Tryz.func37 #[.int .u64 (Int.tmod a0 a2), .int .u64 a1, .int .u64 a2] ?_; (with_reducible refine (bits_Div64.calls k (Int.tmod a0 a2) a1 a2 t314 t315 _ A5.out).mono ?_); rintro e w' ⟨rfl, ⟨nd, rfl⟩⟩; refine ⟨_, rfl, ?_⟩))); (go_ret); exact ⟨by first | rfl | (simp; done) | (simp [*]; done), by repeat (first | exact Drawn0.refl _ | apply Drawn0.step)⟩

end Go.Proofs.YtbapkiclgkddcaaGreatDoor.G

-- Printed by gp.py (a program of this session's own, over the kit's printer) out of the translation; Lean checks it.
namespace Go.Proofs.YtbapkiclgkddcaaGreatDoor.G
open Go.Proofs.YtbapkiclgkddcaaGreatDoor.Given Go.Proofs.YtbapkiclgkddcaaGreatDoor.Short
open Go.RowKit Go.Proofs.YtbapkiclgkddcaaGreatDoorW.PrintWords Go.Proofs.YtbapkiclgkddcaaGreatDoorW.PrintLast Go.Proofs.YtbapkiclgkddcaaGreatDoorW.PrintMore
attribute [local go_sem] max2_int min2_int max_two min_two max_three min_three max_four min_four   -- for this text's walks alone
set_option linter.unusedVariables false
set_option linter.unusedSimpArgs false

/-! ### ratio_wide_over: function 59 -/
def ratio_wide_over.f (k : Nat) (a0_0 : Bool) (a0_1 : Int) (a0_2 : Int) (a1 : Int) : Option (Bool × Int × Int) := if a1 = 0 then (none) else ((bits_Div64.f k (Int.tmod a0_1 a1) a0_2 a1).bind fun bt318 => (some (a0_0, IntKind.u64.wrap (Int.tdiv a0_1 a1), bt318.1)))
theorem ratio_wide_over.mono : ∀ a0 a1 a2 a3 k, LeO (ratio_wide_over.f k a0 a1 a2 a3) (ratio_wide_over.f (k + 1) a0 a1 a2 a3) := by
 intro a0 a1 a2 a3 k; unfold ratio_wide_over.f
 repeat' first
   | (with_reducible exact bits_Div64.mono _ _ _ _)
   | (with_reducible exact LeO.refl _)
   | (with_reducible exact LeO.none _)
   | (with_reducible refine LeO.ite ?_ ?_)
   | (with_reducible refine LeO.bind ?_ (fun _ => ?_))
   | exact bits_Div64.mono _ _ _ _
   | exact LeO.none _
   | refine LeO.ite ?_ ?_
   | refine LeO.bind ?_ (fun _ => ?_)
def ratio_wide_over.T1 : Bool × List (List Nat × List Nat) := (true, [([], []), ([0], [0]), ([], []), ([1, 2], [1, 2]), ([], []), ([4], [4]), ([], []), ([3, 5, 6], [3, 5, 6]), ([7], [7]), ([8], [8]), ([8], [8]), ([9, 7, 0, 1, 2, 3, 4, 5, 6, 7, 8, 9], [9]), ([10, 11, 0, 1, 2, 3, 4, 5, 6, 7, 8, 9, 10, 11], [10])])
def ratio_wide_over.B1 : List Nat := [0, 1, 0, 7, 0, 16, 0, 127, 255, 511, 511, 1023, 4095]
theorem ratio_wide_over.tab1 : rtab .any (opsOf Tryz.f59 1) = ratio_wide_over.T1 := by kernel_rfl
theorem ratio_wide_over.bits1 : waitsOk ratio_wide_over.T1.2 ratio_wide_over.B1 = true := by kernel_rfl
def ratio_wide_over.T2 : Bool × List (List Nat × List Nat) := (true, [([], []), ([0], [0]), ([], []), ([2], [2]), ([], []), ([3, 4], [3, 4]), ([], []), ([1, 5, 6], [1, 5, 6]), ([7, 0, 1, 2, 3, 4, 5, 6, 7], [7])])
def ratio_wide_over.B2 : List Nat := [0, 1, 0, 4, 0, 28, 0, 127, 255]
theorem ratio_wide_over.tab2 : rtab .any (opsOf Tryz.f59 2) = ratio_wide_over.T2 := by kernel_rfl
theorem ratio_wide_over.bits2 : waitsOk ratio_wide_over.T2.2 ratio_wide_over.B2 = true := by kernel_rfl
set_option maxHeartbeats 8000000 in
set_option maxRecDepth 100000 in
theorem ratio_wide_over.calls (k : Nat) (a0_0 : Bool) (a0_1 : Int) (a0_2 : Int) (a1 : Int) (r1 : Bool) (r2 : Int) (r3 : Int) (w : World) (h : ratio_wide_over.f k a0_0 a0_1 a0_2 a1 = some (r1, r2, r3)) :
  Calls Tryz.prog 59 #[.agg #[.bool a0_0, .int .u64 a0_1, .int .u64 a0_2], .int .u64 a1] w fun e w' => e = .returned (.agg #[.bool r1, .int .u64 r2, .int .u64 r3]) ∧ Below w.heap.size w w' := by
 have hu58 := Tryz.underlying58; have HB := Aside0.mk (Below.refl w.heap.size w); have H : (if a1 = 0 then (none) else ((bits_Div64.f k (Int.tmod a0_1 a1) a0_2 a1).bind fun bt318 => (some (a0_0, IntKind.u64.wrap (Int.tdiv a0_1 a1), bt318.1)))) = some (r1, r2, r3) := h; clear h
 by_cases c3 : a1 = 0
 ·rw [if_pos c3] at H; exact absurd H (by simp)
 ·rw [if_neg c3] at H; have c3b0 : (a1 == 0) = false := beq_eq_false_iff_ne.mpr c3; have c3b1 : (a1 != 0) = true := bne_iff_ne.mpr c3; replace H := Option.bind_eq_some_iff.mp H; obtain ⟨⟨t318, t319⟩, A40, H⟩ := H; (try dsimp only at H); have A4 := Aside0.mk A40; clear A40; simp only [Option.some.injEq, Prod.mk.injEq] at H; obtain ⟨rfl, rfl, rfl⟩ := H; (go_enter Tryz.func59, Tryz.ntmps59); (try go_wp2_with (first | ((with_reducible refine gate_dst (N := 2) rfl ?_); refine bx (N := 2) (cs := #[.bool a0_0, .int .u64 a0_1, .int .u64 a0_2]) (t := 58) ?_; intro gb316 hg w5 hbox hb; have BK316 := Aside0.mk (hbox); have GW316 := gs HB hg; have GE316 := gs HB hg; replace HB := wb HB hb; clear hb hbox hg) | ((with_reducible refine gate_dst (N := 4) rfl ?_); refine bx (N := 4) (cs := #[.bool false, .int .u64 0, .int .u64 0]) (t := 58) ?_; intro gb317 hg w6 hbox hb; have BK317 := Aside0.mk (hbox); have GW317 := gs HB hg; have GE317 := gs HB hg; have NB316_317 := nl BK316 hg; have NB317_316 := nr BK316 hg; replace BK316 := kb BK316 hb; replace HB := wb HB hb; clear hb hbox hg))); have n0_ := Aside0.mk (blk_drew BK316.out); have n1_ := Aside0.mk (blk_drew BK317.out); have n2_ := Aside0.mk (below_drew1 HB.out); clear BK316; clear BK317; clear HB; have BK316 := n0_; have BK317 := n1_; have HB := n2_; clear n0_ n1_ n2_; refine start_ (n := 13) (S := fun w' => w'.cell? ⟨gb316, 0, none⟩ = some (.bool a0_0) ∧ w'.cell? ⟨gb316, 1, none⟩ = some (.int .u64 a0_1) ∧ w'.cell? ⟨gb316, 2, none⟩ = some (.int .u64 a0_2)) (ds := []) #[false, false, false, false, false, false, false, false, false, false, false, false, false] (by kernel_rfl) rfl rfl ⟨bc BK316 0, bc BK316 1, bc BK316 2⟩ (fun hHeld => ?_); refine with_tabW ratio_wide_over.tab1 ratio_wide_over.bits1 (fun HT_ HW_ => ?_); (generalize w6.drew = w7 at BK316 BK317 HB hHeld ⊢); refine pure_ (i := 0) (N := some 8) (v := ?_) (a' := ?_) #[true, false, false, false, false, false, false, false, false, false, false, false, false] rfl rfl (any_of HT_.out (by kernel_rfl)) (fun _ _ _ h => h) (Or.inl ⟨by rfl, ?_⟩) ?_ ?_; rotate_left
  ·intro w'; (go_simp); with_reducible rfl
  rotate_left
  ·simp only [Act.put, List.setIfInBounds_toArray, List.set_cons_zero, List.set_cons_succ, i64_w, i32_w]; rfl
  refine pure_ (i := 2) (N := some 10) (v := ?_) (a' := ?_) #[true, false, true, false, false, false, false, false, false, false, false, false, false] rfl rfl (any_of HT_.out (by kernel_rfl)) (fun _ _ _ h => h) (Or.inl ⟨by rfl, ?_⟩) ?_ ?_; rotate_left
  ·intro w'; (go_simp); with_reducible rfl
  rotate_left
  ·simp only [Act.put, List.setIfInBounds_toArray, List.set_cons_zero, List.set_cons_succ, i64_w, i32_w]; rfl
  refine pure_ (i := 4) (N := some 12) (v := ?_) (a' := ?_) #[true, false, true, false, true, false, false, false, false, false, false, false, false] rfl rfl (any_of HT_.out (by kernel_rfl)) (fun _ _ _ h => h) (Or.inl ⟨by rfl, ?_⟩) ?_ ?_; rotate_left
  ·intro w'; (go_simp); with_reducible rfl
  rotate_left
  ·simp only [Act.put, List.setIfInBounds_toArray, List.set_cons_zero, List.set_cons_succ, i64_w, i32_w]; rfl
  refine pure_ (i := 6) (N := some 14) (v := ?_) (a' := ?_) #[true, false, true, false, true, false, true, false, false, false, false, false, false] rfl rfl (any_of HT_.out (by kernel_rfl)) (fun _ _ _ h => h) (Or.inl ⟨by rfl, ?_⟩) ?_ ?_; rotate_left
  ·intro w'; (go_simp); with_reducible rfl
  rotate_left
  ·simp only [Act.put, List.setIfInBounds_toArray, List.set_cons_zero, List.set_cons_succ, i64_w, i32_w]; rfl
  refine take_ (i := 1) (N := some 9) (v := ?_) (a' := ?_) #[true, true, true, false, true, false, true, false, false, false, false, false, false] rfl rfl (take_ofW HT_.out HW_.out (by kernel_rfl)) (fun _ _ _ h => h) (Or.inl ⟨by rfl, ?_⟩) hHeld ?_ ?_; rotate_left
  ·rintro w' ⟨s0, s1, s2⟩; (go_simp); with_reducible rfl
  rotate_left
  ·simp only [Act.put, List.setIfInBounds_toArray, List.set_cons_zero, List.set_cons_succ, i64_w, i32_w]; rfl
  refine pure_ (i := 3) (N := some 11) (v := ?_) (a' := ?_) #[true, true, true, true, true, false, true, false, false, false, false, false, false] rfl rfl (any_of HT_.out (by kernel_rfl)) (fun _ _ _ h => h) (Or.inl ⟨by rfl, ?_⟩) ?_ ?_; rotate_left
  ·intro w'; (go_simp); with_reducible rfl
  rotate_left
  ·simp only [Act.put, List.setIfInBounds_toArray, List.set_cons_zero, List.set_cons_succ, i64_w, i32_w]; rfl
  refine take_ (i := 5) (N := some 13) (v := ?_) (a' := ?_) #[true, true, true, true, true, true, true, false, false, false, false, false, false] rfl rfl (take_ofW HT_.out HW_.out (by kernel_rfl)) (fun _ _ _ h => h) (Or.inl ⟨by rfl, ?_⟩) hHeld ?_ ?_; rotate_left
  ·rintro w' ⟨s0, s1, s2⟩; (go_simp); with_reducible rfl
  rotate_left
  ·simp only [Act.put, List.setIfInBounds_toArray, List.set_cons_zero, List.set_cons_succ, i64_w, i32_w]; rfl
  refine one_ (i := 7) (N := some 15) #[true, true, true, true, true, true, true, true, false, false, false, false, false] rfl rfl (one_of HT_.out (by kernel_rfl)) (by decide) (fun K hK => ?_); refine gz Tryz.func37 #[.int .u64 (Int.tmod a0_1 a1), .int .u64 a0_2, .int .u64 a1] ?_; (with_reducible refine (bits_Div64.calls k (Int.tmod a0_1 a1) a0_2 a1 t318 t319 _ A4.out).mono ?_); rintro e w' ⟨rfl, ⟨nd, rfl⟩⟩; refine ⟨_, rfl, ?_⟩; refine hK.out _ _ ⟨bc BK316 0, bc BK316 1, bc BK316 2⟩ (fun hHeld => ?_); clear hK K; refine norm_ (a' := ?_) ?_ ?_; rotate_left
  ·show Act.put _ (some 15) _ = _; simp only [Act.put, List.setIfInBounds_toArray, List.set_cons_zero, List.set_cons_succ, i64_w, i32_w]; rfl
  refine pure_ (i := 8) (N := some 7) (v := ?_) (a' := ?_) #[true, true, true, true, true, true, true, true, true, false, false, false, false] rfl rfl (any_of HT_.out (by kernel_rfl)) (fun _ _ _ h => h) (Or.inl ⟨by rfl, ?_⟩) ?_ ?_; rotate_left
  ·intro w'; (go_simp); with_reducible rfl
  rotate_left
  ·simp only [Act.put, List.setIfInBounds_toArray, List.set_cons_zero, List.set_cons_succ, i64_w, i32_w]; rfl
  refine pure_ (i := 9) (N := some 16) (v := ?_) (a' := ?_) #[true, true, true, true, true, true, true, true, true, true, false, false, false] rfl rfl (any_of HT_.out (by kernel_rfl)) (fun _ _ _ h => h) (Or.inl ⟨by rfl, ?_⟩) ?_ ?_; rotate_left
  ·intro w'; (go_simp); with_reducible rfl
  rotate_left
  ·simp only [Act.put, List.setIfInBounds_toArray, List.set_cons_zero, List.set_cons_succ, i64_w, i32_w]; rfl
  refine pure_ (i := 10) (N := some 17) (v := ?_) (a' := ?_) #[true, true, true, true, true, true, true, true, true, true, true, false, false] rfl rfl (any_of HT_.out (by kernel_rfl)) (fun _ _ _ h => h) (Or.inl ⟨by rfl, ?_⟩) ?_ ?_; rotate_left
  ·intro w'; (go_simp); with_reducible rfl
  rotate_left
  ·simp only [Act.put, List.setIfInBounds_toArray, List.set_cons_zero, List.set_cons_succ, i64_w, i32_w]; rfl
  refine pure_ (i := 11) (N := some 5) (v := ?_) (a' := ?_) #[true, true, true, true, true, true, true, true, true, true, true, true, false] rfl rfl (any_of HT_.out (by kernel_rfl)) (fun _ _ _ h => h) (Or.inl ⟨by rfl, ?_⟩) ?_ ?_; rotate_left
  ·intro w'; (go_simp); with_reducible rfl
  rotate_left
  ·simp only [Act.put, List.setIfInBounds_toArray, List.set_cons_zero, List.set_cons_succ, i64_w, i32_w]; rfl
  refine pure_ (i := 12) (N := some 6) (v := ?_) (a' := ?_) #[true, true, true, true, true, true, true, true, true, true, true, true, true] rfl rfl (any_of HT_.out (by kernel_rfl)) (fun _ _ _ h => h) (Or.inl ⟨by rfl, ?_⟩) ?_ ?_; rotate_left
  ·intro w'; (go_simp); with_reducible rfl
  rotate_left
  ·simp only [Act.put, List.setIfInBounds_toArray, List.set_cons_zero, List.set_cons_succ, i64_w, i32_w]; rfl
  refine done_ (done_of HT_.out (by kernel_rfl)) ?_; (try go_wp2); (try (rw [drewN_self w7]; generalize hq_ : World.drewN w7 _ = w7; replace BK316 : Aside0 (w7.heap[gb316]? = some (.cells #[.bool a0_0, .int .u64 a0_1, .int .u64 a0_2] 58 (0, 0))) := ⟨by rw [← hq_]; exact (bq BK316)⟩; replace BK317 : Aside0 (w7.heap[gb317]? = some (.cells #[.bool false, .int .u64 0, .int .u64 0] 58 (0, 0))) := ⟨by rw [← hq_]; exact (bq BK317)⟩; replace HB : Aside0 (Below w.heap.size w w7) := ⟨by rw [← hq_]; exact (bw HB)⟩; clear hq_)); have n0_ := Aside0.mk (blk_drew BK316.out); have n1_ := Aside0.mk (blk_drew BK317.out); have n2_ := Aside0.mk (below_drew1 HB.out); clear BK316; clear BK317; clear HB; have BK316 := n0_; have BK317 := n1_; have HB := n2_; clear n0_ n1_ n2_; refine start_ (n := 9) (S := fun w' => w'.cell? ⟨gb316, 0, none⟩ = some (.bool a0_0) ∧ w'.cell? ⟨gb316, 1, none⟩ = some (.int .u64 a0_1) ∧ w'.cell? ⟨gb316, 2, none⟩ = some (.int .u64 a0_2)) (ds := []) #[false, false, false, false, false, false, false, false, false] (by kernel_rfl) rfl rfl ⟨bc BK316 0, bc BK316 1, bc BK316 2⟩ (fun hHeld => ?_); refine with_tabW ratio_wide_over.tab2 ratio_wide_over.bits2 (fun HT_ HW_ => ?_); (generalize w7.drew = w8 at BK316 BK317 HB hHeld ⊢); refine pure_ (i := 0) (N := some 18) (v := ?_) (a' := ?_) #[true, false, false, false, false, false, false, false, false] rfl rfl (any_of HT_.out (by kernel_rfl)) (fun _ _ _ h => h) (Or.inl ⟨by rfl, ?_⟩) ?_ ?_; rotate_left
  ·intro w'; (go_simp); with_reducible rfl
  rotate_left
  ·simp only [Act.put, List.setIfInBounds_toArray, List.set_cons_zero, List.set_cons_succ, i64_w, i32_w]; rfl
  refine pure_ (i := 2) (N := some 20) (v := ?_) (a' := ?_) #[true, false, true, false, false, false, false, false, false] rfl rfl (any_of HT_.out (by kernel_rfl)) (fun _ _ _ h => h) (Or.inl ⟨by rfl, ?_⟩) ?_ ?_; rotate_left
  ·intro w'; (go_simp); with_reducible rfl
  rotate_left
  ·simp only [Act.put, List.setIfInBounds_toArray, List.set_cons_zero, List.set_cons_succ, i64_w, i32_w]; rfl
  refine pure_ (i := 4) (N := some 22) (v := ?_) (a' := ?_) #[true, false, true, false, true, false, false, false, false] rfl rfl (any_of HT_.out (by kernel_rfl)) (fun _ _ _ h => h) (Or.inl ⟨by rfl, ?_⟩) ?_ ?_; rotate_left
  ·intro w'; (go_simp); with_reducible rfl
  rotate_left
  ·simp only [Act.put, List.setIfInBounds_toArray, List.set_cons_zero, List.set_cons_succ, i64_w, i32_w]; rfl
  refine pure_ (i := 6) (N := some 24) (v := ?_) (a' := ?_) #[true, false, true, false, true, false, true, false, false] rfl rfl (any_of HT_.out (by kernel_rfl)) (fun _ _ _ h => h) (Or.inl ⟨by rfl, ?_⟩) ?_ ?_; rotate_left
  ·intro w'; (go_simp); with_reducible rfl
  rotate_left
  ·simp only [Act.put, List.setIfInBounds_toArray, List.set_cons_zero, List.set_cons_succ, i64_w, i32_w]; rfl
  refine take_ (i := 1) (N := some 19) (v := ?_) (a' := ?_) #[true, true, true, false, true, false, true, false, false] rfl rfl (take_ofW HT_.out HW_.out (by kernel_rfl)) (fun _ _ _ h => h) (Or.inl ⟨by rfl, ?_⟩) hHeld ?_ ?_; rotate_left
  ·rintro w' ⟨s0, s1, s2⟩; (go_simp); with_reducible rfl
  rotate_left
  ·simp only [Act.put, List.setIfInBounds_toArray, List.set_cons_zero, List.set_cons_succ, i64_w, i32_w]; rfl
  refine take_ (i := 3) (N := some 21) (v := ?_) (a' := ?_) #[true, true, true, true, true, false, true, false, false] rfl rfl (take_ofW HT_.out HW_.out (by kernel_rfl)) (fun _ _ _ h => h) (Or.inl ⟨by rfl, ?_⟩) hHeld ?_ ?_; rotate_left
  ·rintro w' ⟨s0, s1, s2⟩; (go_simp); with_reducible rfl
  rotate_left
  ·simp only [Act.put, List.setIfInBounds_toArray, List.set_cons_zero, List.set_cons_succ, i64_w, i32_w]; rfl
  refine pure_ (i := 5) (N := some 23) (v := ?_) (a' := ?_) #[true, true, true, true, true, true, true, false, false] rfl rfl (any_of HT_.out (by kernel_rfl)) (fun _ _ _ h => h) (Or.inl ⟨by rfl, ?_⟩) ?_ ?_; rotate_left
  ·intro w'; (go_simp); with_reducible rfl
  rotate_left
  ·simp only [Act.put, List.setIfInBounds_toArray, List.set_cons_zero, List.set_cons_succ, i64_w, i32_w]; rfl
  refine pure_ (i := 7) (N := some 25) (v := ?_) (a' := ?_) #[true, true, true, true, true, true, true, true, false] rfl rfl (any_of HT_.out (by kernel_rfl)) (fun _ _ _ h => h) (Or.inl ⟨by rfl, ?_⟩) ?_ ?_; rotate_left
  ·intro w'; (go_simp); with_reducible rfl
  rotate_left
  ·simp only [Act.put, List.setIfInBounds_toArray, List.set_cons_zero, List.set_cons_succ, i64_w, i32_w]; rfl
  refine one_ (i := 8) (N := none) #[true, true, true, true, true, true, true, true, true] rfl rfl (one_of HT_.out (by kernel_rfl)) (by decide) (fun K hK => ?_); have hs9 : w8.cell? ⟨gb317, 0, none⟩ = some (.bool false) := bc BK317 0; have hfs9 := blk_frozen BK317.out 0; have hns9_0 := NB316_317.out; have hms9_0 := NB317_316.out; have hs10 : w8.cell? ⟨gb317, 1, none⟩ = some (.int .u64 0) := bc BK317 1; have hfs10 := blk_frozen BK317.out 1; have hns10_0 := NB316_317.out; have hms10_0 := NB317_316.out; have hs11 : w8.cell? ⟨gb317, 2, none⟩ = some (.int .u64 0) := bc BK317 2; have hfs11 := blk_frozen BK317.out 2; have hns11_0 := NB316_317.out; have hms11_0 := NB317_316.out; refine skip_ (w1 := ?_) (by rfl) rfl ?_ ?_; rotate_left
  ·(go_simp); rfl
  refine hK.out _ _ ⟨((cell_far (p := ⟨gb317, _, none⟩) NB316_317.out _).trans (((cell_far (p := ⟨gb317, _, none⟩) NB316_317.out _).trans (((cell_far (p := ⟨gb317, _, none⟩) NB316_317.out _).trans (hHeld.1)))))), ((cell_far (p := ⟨gb317, _, none⟩) NB316_317.out _).trans (((cell_far (p := ⟨gb317, _, none⟩) NB316_317.out _).trans (((cell_far (p := ⟨gb317, _, none⟩) NB316_317.out _).trans (hHeld.2.1)))))), ((cell_far (p := ⟨gb317, _, none⟩) NB316_317.out _).trans (((cell_far (p := ⟨gb317, _, none⟩) NB316_317.out _).trans (((cell_far (p := ⟨gb317, _, none⟩) NB316_317.out _).trans (hHeld.2.2))))))⟩ (fun hHeld => ?_); clear hK K; refine done_ (done_of HT_.out (by kernel_rfl)) ?_; (try go_wp2); refine bodyPost_ret (results_cell_row rfl _ _ gb317 58 #[.bool a0_0, .int .u64 (IntKind.u64.wrap (Int.tdiv a0_1 a1)), .int .u64 t318] (0, 0) _ rfl (by refine pe ?_; refine blk_put (cs := #[.bool a0_0, .int .u64 (IntKind.u64.wrap (Int.tdiv a0_1 a1)), .int .u64 0]) ?_ 2 _ rfl; refine pe ?_; refine blk_put (cs := #[.bool a0_0, .int .u64 0, .int .u64 0]) ?_ 1 _ rfl; refine pe ?_; refine blk_put (cs := #[.bool false, .int .u64 0, .int .u64 0]) ?_ 0 _ rfl; refine pe ?_; exact BK317.out) Tryz.underlying58 rfl (by kernel_rfl)) rfl ?_; exact ⟨by first | rfl | (simp [errW_none, errW_some] <;> rfl) | (simp [*, errW_none, errW_some] <;> rfl), bw HB⟩

end Go.Proofs.YtbapkiclgkddcaaGreatDoor.G

-- Printed by gp.py (a program of this session's own, over the kit's printer) out of the translation; Lean checks it.
namespace Go.Proofs.YtbapkiclgkddcaaGreatDoor.G
open Go.Proofs.YtbapkiclgkddcaaGreatDoor.Given Go.Proofs.YtbapkiclgkddcaaGreatDoor.Short
open Go.RowKit Go.Proofs.YtbapkiclgkddcaaGreatDoorW.PrintWords Go.Proofs.YtbapkiclgkddcaaGreatDoorW.PrintLast Go.Proofs.YtbapkiclgkddcaaGreatDoorW.PrintMore
attribute [local go_sem] max2_int min2_int max_two min_two max_three min_three max_four min_four   -- for this text's walks alone
set_option linter.unusedVariables false
set_option linter.unusedSimpArgs false

/-! ### ratio_lowest: function 31 -/
def ratio_lowest.j0 : Nat → Int → Bool → Bool → Int → Int → Option (Int × Int × Int)
 | 0, _, _, _, _, _ => none
 | k + 1, x1, x33, x321000, x321001, x321002 => if x33 = true then (some (0, 0, 6)) else (if x321000 = true then (some (wrap64 (-(wrap64 (x321002))), wrap64 (x1), 0)) else (some (wrap64 (x321002), wrap64 (x1), 0)))
def ratio_lowest.f (k : Nat) (a0_0 : Bool) (a0_1 : Int) (a0_2 : Int) (a1 : Int) : Option (Int × Int × Int) := (bits_Rem64.f k a0_1 a0_2 a1).bind fun t322 => ((ratio_gcd.f k a1 t322).bind fun t323 => ((ratio_wide_over.f k a0_0 a0_1 a0_2 t323).bind fun bt324 => (if t323 = 0 then (none) else (if bt324.2.1 = 0 then (if bt324.2.2 > 1152921504606846976 then (ratio_lowest.j0 k (IntKind.u64.wrap (Int.tdiv a1 t323)) true bt324.1 bt324.2.1 bt324.2.2) else (ratio_lowest.j0 k (IntKind.u64.wrap (Int.tdiv a1 t323)) (decide ((IntKind.u64.wrap (Int.tdiv a1 t323)) > 1152921504606846976)) bt324.1 bt324.2.1 bt324.2.2)) else (ratio_lowest.j0 k (IntKind.u64.wrap (Int.tdiv a1 t323)) true bt324.1 bt324.2.1 bt324.2.2)))))
theorem ratio_lowest.mono_l : ∀ k, (∀ y0 y1 y2 y3 y4, LeO (ratio_lowest.j0 k y0 y1 y2 y3 y4) (ratio_lowest.j0 (k + 1) y0 y1 y2 y3 y4))
 | 0 => fun _ _ _ _ _ r h => by simp [ratio_lowest.j0] at h
 | k + 1 => by
  have ih0 := ratio_lowest.mono_l k
  ·intro y0 y1 y2 y3 y4; unfold ratio_lowest.j0
   repeat' first
   | (with_reducible exact ih0 _ _ _ _ _)
   | (with_reducible exact bits_Rem64.mono _ _ _ _)
   | (with_reducible exact ratio_gcd.mono _ _ _)
   | (with_reducible exact ratio_wide_over.mono _ _ _ _ _)
   | (with_reducible exact LeO.refl _)
   | (with_reducible exact LeO.none _)
   | (with_reducible refine LeO.ite ?_ ?_)
   | (with_reducible refine LeO.bind ?_ (fun _ => ?_))
   | exact ih0 _ _ _ _ _
   | exact bits_Rem64.mono _ _ _ _
   | exact ratio_gcd.mono _ _ _
   | exact ratio_wide_over.mono _ _ _ _ _
   | exact LeO.none _
   | refine LeO.ite ?_ ?_
   | refine LeO.bind ?_ (fun _ => ?_)
theorem ratio_lowest.mono : ∀ a0 a1 a2 a3 k, LeO (ratio_lowest.f k a0 a1 a2 a3) (ratio_lowest.f (k + 1) a0 a1 a2 a3) := by
 intro a0 a1 a2 a3 k; have ih0 := ratio_lowest.mono_l k; unfold ratio_lowest.f
 repeat' first
   | (with_reducible exact ih0 _ _ _ _ _)
   | (with_reducible exact bits_Rem64.mono _ _ _ _)
   | (with_reducible exact ratio_gcd.mono _ _ _)
   | (with_reducible exact ratio_wide_over.mono _ _ _ _ _)
   | (with_reducible exact LeO.refl _)
   | (with_reducible exact LeO.none _)
   | (with_reducible refine LeO.ite ?_ ?_)
   | (with_reducible refine LeO.bind ?_ (fun _ => ?_))
   | exact ih0 _ _ _ _ _
   | exact bits_Rem64.mono _ _ _ _
   | exact ratio_gcd.mono _ _ _
   | exact ratio_wide_over.mono _ _ _ _ _
   | exact LeO.none _
   | refine LeO.ite ?_ ?_
   | refine LeO.bind ?_ (fun _ => ?_)
def ratio_lowest.T2 : Bool × List (List Nat × List Nat) := (true, [([], []), ([], []), ([0, 1], [0, 1]), ([], []), ([], []), ([3, 4], [3, 4]), ([2, 2, 0, 1, 2], [2]), ([5, 6, 0, 1, 2, 3, 4, 5, 6], [3, 5])])
def ratio_lowest.B2 : List Nat := [0, 0, 3, 0, 0, 24, 7, 127]
theorem ratio_lowest.tab2 : rtab .any (opsOf Tryz.f31 2) = ratio_lowest.T2 := by kernel_rfl
theorem ratio_lowest.bits2 : waitsOk ratio_lowest.T2.2 ratio_lowest.B2 = true := by kernel_rfl
set_option maxHeartbeats 8000000 in
set_option maxRecDepth 100000 in
theorem ratio_lowest.calls (k : Nat) (a0_0 : Bool) (a0_1 : Int) (a0_2 : Int) (a1 : Int) (r1 : Int) (r2 : Int) (r3 : Int) (w : World) (h : ratio_lowest.f k a0_0 a0_1 a0_2 a1 = some (r1, r2, r3)) :
  Calls Tryz.prog 31 #[.agg #[.bool a0_0, .int .u64 a0_1, .int .u64 a0_2], .int .u64 a1] w fun e w' => e = .returned (.tuple #[.agg #[.int .i64 r1, .int .i64 r2], .int .i64 r3]) ∧ Below w.heap.size w w' := by
 have hu58 := Tryz.underlying58; have hu24 := Tryz.underlying24; have HB := Aside0.mk (Below.refl w.heap.size w); have H : ((bits_Rem64.f k a0_1 a0_2 a1).bind fun t322 => ((ratio_gcd.f k a1 t322).bind fun t323 => ((ratio_wide_over.f k a0_0 a0_1 a0_2 t323).bind fun bt324 => (if t323 = 0 then (none) else (if bt324.2.1 = 0 then (if bt324.2.2 > 1152921504606846976 then (ratio_lowest.j0 k (IntKind.u64.wrap (Int.tdiv a1 t323)) true bt324.1 bt324.2.1 bt324.2.2) else (ratio_lowest.j0 k (IntKind.u64.wrap (Int.tdiv a1 t323)) (decide ((IntKind.u64.wrap (Int.tdiv a1 t323)) > 1152921504606846976)) bt324.1 bt324.2.1 bt324.2.2)) else (ratio_lowest.j0 k (IntKind.u64.wrap (Int.tdiv a1 t323)) true bt324.1 bt324.2.1 bt324.2.2)))))) = some (r1, r2, r3) := h; clear h; replace H := Option.bind_eq_some_iff.mp H; obtain ⟨t322, A30, H⟩ := H; (try dsimp only at H); have A3 := Aside0.mk A30; clear A30; replace H := Option.bind_eq_some_iff.mp H; obtain ⟨t323, A40, H⟩ := H; (try dsimp only at H); have A4 := Aside0.mk A40; clear A40; replace H := Option.bind_eq_some_iff.mp H; obtain ⟨⟨t324, t325, t326⟩, A50, H⟩ := H; (try dsimp only at H); have A5 := Aside0.mk A50; clear A50
 by_cases c6 : t323 = 0
 ·rw [if_pos c6] at H; exact absurd H (by simp)
 ·rw [if_neg c6] at H; have c6b0 : (t323 == 0) = false := beq_eq_false_iff_ne.mpr c6; have c6b1 : (t323 != 0) = true := bne_iff_ne.mpr c6; have HC7 := Aside0.mk H; clear H; (go_enter Tryz.func31, Tryz.ntmps31); (try go_wp2_with (first | ((with_reducible refine gate_dst (N := 2) rfl ?_); refine bx (N := 2) (cs := #[.bool a0_0, .int .u64 a0_1, .int .u64 a0_2]) (t := 58) ?_; intro gb320 hg w8 hbox hb; have BK320 := Aside0.mk (hbox); have GW320 := gs HB hg; have GE320 := gs HB hg; replace HB := wb HB hb; clear hb hbox hg) | ((with_reducible refine gate_dst (N := 4) rfl ?_); refine bx (N := 4) (cs := #[.int .i64 0, .int .i64 0]) (t := 24) ?_; intro gb321 hg w9 hbox hb; have BK321 := Aside0.mk (hbox); have GW321 := gs HB hg; have GE321 := gs HB hg; have NB320_321 := nl BK320 hg; have NB321_320 := nr BK320 hg; replace BK320 := kb BK320 hb; replace HB := wb HB hb; clear hb hbox hg; obtain ⟨hnb10, hnc10⟩ := n2 NB320_321; have hcz11_0 : w9.cell? ⟨gb320, 0, none⟩ = some (.bool a0_0) := bc BK320 0; have hcz11_1 : w9.cell? ⟨gb320, 1, none⟩ = some (.int .u64 a0_1) := bc BK320 1; have hcz11_2 : w9.cell? ⟨gb320, 2, none⟩ = some (.int .u64 a0_2) := bc BK320 2; have hfz11_0 := blk_frozen BK320.out 0; have hfz11_1 := blk_frozen BK320.out 1; have hfz11_2 := blk_frozen BK320.out 2) | ((with_reducible refine gate_callee (f := 58) rfl ?_); refine gl (some 14) Tryz.func58 #[.int .u64 a0_1, .int .u64 a0_2, .int .u64 a1] ?_; (with_reducible refine (bits_Rem64.calls k a0_1 a0_2 a1 t322 _ A3.out).mono ?_); rintro e w' ⟨rfl, ⟨nd, rfl⟩⟩; refine ⟨_, rfl, ?_⟩; (try (rw [drewN_self w9]; generalize hq_ : World.drewN w9 _ = w9; replace BK320 : Aside0 (w9.heap[gb320]? = some (.cells #[.bool a0_0, .int .u64 a0_1, .int .u64 a0_2] 58 (0, 0))) := ⟨by rw [← hq_]; exact (bq BK320)⟩; replace BK321 : Aside0 (w9.heap[gb321]? = some (.cells #[.int .i64 0, .int .i64 0] 24 (0, 0))) := ⟨by rw [← hq_]; exact (bq BK321)⟩; replace HB : Aside0 (Below w.heap.size w w9) := ⟨by rw [← hq_]; exact (bw HB)⟩; clear hq_))) | ((with_reducible refine gate_callee (f := 44) rfl ?_); refine gl (some 15) Tryz.func44 #[.int .u64 a1, .int .u64 t322] ?_; (with_reducible refine (ratio_gcd.calls k a1 t322 t323 _ A4.out).mono ?_); rintro e w' ⟨rfl, ⟨nd, rfl⟩⟩; refine ⟨_, rfl, ?_⟩; (try (rw [drewN_self w9]; generalize hq_ : World.drewN w9 _ = w9; replace BK320 : Aside0 (w9.heap[gb320]? = some (.cells #[.bool a0_0, .int .u64 a0_1, .int .u64 a0_2] 58 (0, 0))) := ⟨by rw [← hq_]; exact (bq BK320)⟩; replace BK321 : Aside0 (w9.heap[gb321]? = some (.cells #[.int .i64 0, .int .i64 0] 24 (0, 0))) := ⟨by rw [← hq_]; exact (bq BK321)⟩; replace HB : Aside0 (Below w.heap.size w w9) := ⟨by rw [← hq_]; exact (bw HB)⟩; clear hq_))))); have n0_ := Aside0.mk (blk_drew BK320.out); have n1_ := Aside0.mk (blk_drew BK321.out); have n2_ := Aside0.mk (below_drew1 HB.out); clear BK320; clear BK321; clear HB; have BK320 := n0_; have BK321 := n1_; have HB := n2_; clear n0_ n1_ n2_; refine start_ (n := 8) (S := fun w' => w'.cell? ⟨gb320, 0, none⟩ = some (.bool a0_0) ∧ w'.cell? ⟨gb320, 1, none⟩ = some (.int .u64 a0_1) ∧ w'.cell? ⟨gb320, 2, none⟩ = some (.int .u64 a0_2)) (ds := [6]) #[false, false, false, false, false, false, false, false] (by kernel_rfl) rfl rfl ⟨bc BK320 0, bc BK320 1, bc BK320 2⟩ (fun hHeld => ?_); refine with_tabW ratio_lowest.tab2 ratio_lowest.bits2 (fun HT_ HW_ => ?_); (generalize w9.drew = w12 at BK320 BK321 HB hHeld ⊢); refine pure_ (i := 1) (N := some 17) (v := ?_) (a' := ?_) #[false, true, false, false, false, false, false, false] rfl rfl (any_of HT_.out (by kernel_rfl)) (fun _ _ _ h => h) (Or.inl ⟨by rfl, ?_⟩) ?_ ?_; rotate_left
  ·intro w'; (go_simp); with_reducible rfl
  rotate_left
  ·simp only [Act.put, List.setIfInBounds_toArray, List.set_cons_zero, List.set_cons_succ, i64_w, i32_w]; rfl
  refine pure_ (i := 3) (N := some 19) (v := ?_) (a' := ?_) #[false, true, false, true, false, false, false, false] rfl rfl (any_of HT_.out (by kernel_rfl)) (fun _ _ _ h => h) (Or.inl ⟨by rfl, ?_⟩) ?_ ?_; rotate_left
  ·intro w'; (go_simp); with_reducible rfl
  rotate_left
  ·simp only [Act.put, List.setIfInBounds_toArray, List.set_cons_zero, List.set_cons_succ, i64_w, i32_w]; rfl
  refine pure_ (i := 4) (N := some 20) (v := ?_) (a' := ?_) #[false, true, false, true, true, false, false, false] rfl rfl (any_of HT_.out (by kernel_rfl)) (fun _ _ _ h => h) (Or.inl ⟨by rfl, ?_⟩) ?_ ?_; rotate_left
  ·intro w'; (go_simp); with_reducible rfl
  rotate_left
  ·simp only [Act.put, List.setIfInBounds_toArray, List.set_cons_zero, List.set_cons_succ, i64_w, i32_w]; rfl
  refine pure_ (i := 5) (N := some 21) (v := ?_) (a' := ?_) #[false, true, false, true, true, true, false, false] rfl rfl (any_of HT_.out (by kernel_rfl)) (fun _ _ _ h => h) (Or.inl ⟨by rfl, ?_⟩) ?_ ?_; rotate_left
  ·intro w'; (go_simp); with_reducible rfl
  rotate_left
  ·simp only [Act.put, List.setIfInBounds_toArray, List.set_cons_zero, List.set_cons_succ, i64_w, i32_w]; rfl
  refine take_ (i := 0) (N := some 16) (v := ?_) (a' := ?_) #[true, true, false, true, true, true, false, false] rfl rfl (take_ofW HT_.out HW_.out (by kernel_rfl)) (fun _ _ _ h => h) (Or.inl ⟨by rfl, ?_⟩) hHeld ?_ ?_; rotate_left
  ·rintro w' ⟨s0, s1, s2⟩; (go_simp); with_reducible rfl
  rotate_left
  ·simp only [Act.put, List.setIfInBounds_toArray, List.set_cons_zero, List.set_cons_succ, i64_w, i32_w]; rfl
  refine one_ (i := 2) (N := some 18) #[true, true, true, true, true, true, false, false] rfl rfl (one_of HT_.out (by kernel_rfl)) (by decide) (fun K hK => ?_); refine gz Tryz.func59 #[.agg #[.bool a0_0, .int .u64 a0_1, .int .u64 a0_2], .int .u64 t323] ?_; (with_reducible refine (ratio_wide_over.calls k a0_0 a0_1 a0_2 t323 t324 t325 t326 _ A5.out).mono ?_); rintro e w13 ⟨rfl, hb⟩; refine ⟨_, rfl, ?_⟩; have n0_ := kb BK320 hb; have n1_ := kb BK321 hb; have n2_ := wb HB hb; clear BK320; clear BK321; clear HB; have BK320 := n0_; have BK321 := n1_; have HB := n2_; clear n0_ n1_ n2_; (try clear hb); (try clear hb2); (try clear hk); (try clear hi); refine hK.out _ _ ⟨bc BK320 0, bc BK320 1, bc BK320 2⟩ (fun hHeld => ?_); clear hK K; refine norm_ (a' := ?_) ?_ ?_; rotate_left
  ·show Act.put _ (some 18) _ = _; simp only [Act.put, List.setIfInBounds_toArray, List.set_cons_zero, List.set_cons_succ, i64_w, i32_w]; rfl
  refine last_ (i := 6) (N := none) #[true, true, true, true, true, true, true, false] rfl rfl (one_of HT_.out (by kernel_rfl)) (by decide) (fun K hK => ?_); have hs14 : w13.cell? ⟨gb320, 0, none⟩ = some (.bool a0_0) := bc BK320 0; have hfs14 := blk_frozen BK320.out 0; have hns14_1 := NB321_320.out; have hms14_1 := NB320_321.out; have hs15 : w13.cell? ⟨gb320, 1, none⟩ = some (.int .u64 a0_1) := bc BK320 1; have hfs15 := blk_frozen BK320.out 1; have hns15_1 := NB321_320.out; have hms15_1 := NB320_321.out; have hs16 : w13.cell? ⟨gb320, 2, none⟩ = some (.int .u64 a0_2) := bc BK320 2; have hfs16 := blk_frozen BK320.out 2; have hns16_1 := NB321_320.out; have hms16_1 := NB320_321.out; refine skip_ (w1 := ?_) (by rfl) rfl ?_ ?_; rotate_left
  ·(go_simp); rfl
  refine hK.out _ _ ?_; clear hK K; refine pure_ (i := 7) (N := some 1) (v := ?_) (a' := ?_) #[true, true, true, true, true, true, true, true] rfl rfl (any_of HT_.out (by kernel_rfl)) (fun _ _ _ h => h) (Or.inl ⟨by rfl, ?_⟩) ?_ ?_; rotate_left
  ·intro w'; (go_simp); with_reducible rfl
  rotate_left
  ·simp only [Act.put, List.setIfInBounds_toArray, List.set_cons_zero, List.set_cons_succ, i64_w, i32_w]; rfl
  refine done_ (done_of HT_.out (by kernel_rfl)) ?_
  go_upto_region 3 with (fail)
  go_cut [33] (fun v33 wc => ∃ (kq : Nat) (x33_6 : Bool), v33 = .bool x33_6 ∧ Aside0 (ratio_lowest.j0 kq (IntKind.u64.wrap (Int.tdiv a1 t323)) x33_6 t324 t325 t326 = some (r1, r2, r3)) ∧ Aside0 (kq ≤ k) ∧ Aside0 (wc.heap[gb320]? = some (.cells #[.bool t324, .int .u64 t325, .int .u64 t326] 58 (0, 0))) ∧ Aside0 (wc.heap[gb321]? = some (.cells #[.int .i64 0, .int .i64 0] 24 (0, 0))) ∧ Aside0 (Below w.heap.size w wc))
  case first =>
   have H := HC7.out; clear HC7
   by_cases c17 : t325 = 0
   ·rw [if_pos c17] at H; have c17b0 : (t325 == 0) = true := beq_iff_eq.mpr c17; have c17b1 : (t325 != 0) = false := bne_eq_false_iff_eq.mpr c17; clear c17
    (first | rw [c17b0] | (simp only [i64_w, i32_w]; rw [c17b0]) | skip)
    by_cases c18 : t326 > 1152921504606846976
    ·rw [if_pos c18] at H; have c18b0 : decide (1152921504606846976 < t326) = true := decide_eq_true c18; clear c18; have H' := Aside0.mk H; clear H; obtain ⟨hnb19, hnc19⟩ := n2 NB320_321; have hcz20_0 : w13.cell? ⟨gb320, 0, none⟩ = some (.bool a0_0) := bc BK320 0; have hcz20_1 : w13.cell? ⟨gb320, 1, none⟩ = some (.int .u64 a0_1) := bc BK320 1; have hcz20_2 : w13.cell? ⟨gb320, 2, none⟩ = some (.int .u64 a0_2) := bc BK320 2; have hfz20_0 := blk_frozen BK320.out 0; have hfz20_1 := blk_frozen BK320.out 1; have hfz20_2 := blk_frozen BK320.out 2; go_wp2
     go_meet
     case rel => exact ⟨_, (true), (by first | rfl | (simp; done) | (simp [*]; done)), H', ⟨by first | omega | exact Nat.le_refl _⟩, ⟨by refine pe ?_; refine blk_put (cs := #[.bool t324, .int .u64 t325, .int .u64 a0_2]) ?_ 2 _ rfl; refine pe ?_; refine blk_put (cs := #[.bool t324, .int .u64 a0_1, .int .u64 a0_2]) ?_ 1 _ rfl; refine pe ?_; refine blk_put (cs := #[.bool a0_0, .int .u64 a0_1, .int .u64 a0_2]) ?_ 0 _ rfl; refine pe ?_; exact BK320.out⟩, ⟨bq BK321⟩, ⟨bw HB⟩⟩
    ·rw [if_neg c18] at H; have c18b0 : decide (1152921504606846976 < t326) = false := decide_eq_false c18; clear c18; have H' := Aside0.mk H; clear H; obtain ⟨hnb21, hnc21⟩ := n2 NB320_321; have hcz22_0 : w13.cell? ⟨gb320, 0, none⟩ = some (.bool a0_0) := bc BK320 0; have hcz22_1 : w13.cell? ⟨gb320, 1, none⟩ = some (.int .u64 a0_1) := bc BK320 1; have hcz22_2 : w13.cell? ⟨gb320, 2, none⟩ = some (.int .u64 a0_2) := bc BK320 2; have hfz22_0 := blk_frozen BK320.out 0; have hfz22_1 := blk_frozen BK320.out 1; have hfz22_2 := blk_frozen BK320.out 2; go_wp2
     go_meet
     case rel => exact ⟨_, (decide ((IntKind.u64.wrap (Int.tdiv a1 t323)) > 1152921504606846976)), (by first | rfl | (simp; done) | (simp [*]; done)), H', ⟨by first | omega | exact Nat.le_refl _⟩, ⟨by refine pe ?_; refine blk_put (cs := #[.bool t324, .int .u64 t325, .int .u64 a0_2]) ?_ 2 _ rfl; refine pe ?_; refine blk_put (cs := #[.bool t324, .int .u64 a0_1, .int .u64 a0_2]) ?_ 1 _ rfl; refine pe ?_; refine blk_put (cs := #[.bool a0_0, .int .u64 a0_1, .int .u64 a0_2]) ?_ 0 _ rfl; refine pe ?_; exact BK320.out⟩, ⟨bq BK321⟩, ⟨bw HB⟩⟩
   ·rw [if_neg c17] at H; have c17b0 : (t325 == 0) = false := beq_eq_false_iff_ne.mpr c17; have c17b1 : (t325 != 0) = true := bne_iff_ne.mpr c17
    (first | rw [c17b0] | (simp only [i64_w, i32_w]; rw [c17b0]) | skip)
    have H' := Aside0.mk H; clear H; obtain ⟨hnb23, hnc23⟩ := n2 NB320_321; have hcz24_0 : w13.cell? ⟨gb320, 0, none⟩ = some (.bool a0_0) := bc BK320 0; have hcz24_1 : w13.cell? ⟨gb320, 1, none⟩ = some (.int .u64 a0_1) := bc BK320 1; have hcz24_2 : w13.cell? ⟨gb320, 2, none⟩ = some (.int .u64 a0_2) := bc BK320 2; have hfz24_0 := blk_frozen BK320.out 0; have hfz24_1 := blk_frozen BK320.out 1; have hfz24_2 := blk_frozen BK320.out 2; go_wp2
    go_meet
    case rel => exact ⟨_, (true), (by first | rfl | (simp; done) | (simp [*]; done)), H', ⟨by first | omega | exact Nat.le_refl _⟩, ⟨by refine pe ?_; refine blk_put (cs := #[.bool t324, .int .u64 t325, .int .u64 a0_2]) ?_ 2 _ rfl; refine pe ?_; refine blk_put (cs := #[.bool t324, .int .u64 a0_1, .int .u64 a0_2]) ?_ 1 _ rfl; refine pe ?_; refine blk_put (cs := #[.bool a0_0, .int .u64 a0_1, .int .u64 a0_2]) ?_ 0 _ rfl; refine pe ?_; exact BK320.out⟩, ⟨bq BK321⟩, ⟨bw HB⟩⟩
  case rest =>
   clear HC7; (try clear c1); (try clear c2); (try clear p2); (try clear c3); (try clear c4); (try clear c5); (try clear c6); (try clear c6b0); (try clear c6b1); (try clear c10); (try clear c17); (try clear c17b0); (try clear c17b1); (try clear c18); (try clear c18b0); (try clear c19); (try clear c21); (try clear c23); (try clear hcz11_0); (try clear hcz11_1); (try clear hcz11_2); (try clear hcz20_0); (try clear hcz20_1); (try clear hcz20_2); (try clear hcz22_0); (try clear hcz22_1); (try clear hcz22_2); (try clear hcz24_0); (try clear hcz24_1); (try clear hcz24_2); (try clear hfz11_0); (try clear hfz11_1); (try clear hfz11_2); (try clear hfz20_0); (try clear hfz20_1); (try clear hfz20_2); (try clear hfz22_0); (try clear hfz22_1); (try clear hfz22_2); (try clear hfz24_0); (try clear hfz24_1); (try clear hfz24_2); obtain ⟨kq, x33_6, rfl, HA, HJ6, BK320, BK321, HB⟩ := hcut
   cases kq with
   | zero => exact absurd HA.out (by simp [ratio_lowest.j0])
   | succ kj6 =>
    have H := HA.out; clear HA; simp only [ratio_lowest.j0] at H
    by_cases c25 : x33_6 = true
    ·subst c25; (have H1 : (some (0, 0, 6)) = some (r1, r2, r3) := by rw [if_pos rfl] at H; exact H); clear H; have H := H1; clear H1; simp only [Option.some.injEq, Prod.mk.injEq] at H; obtain ⟨rfl, rfl, rfl⟩ := H; obtain ⟨hnb26, hnc26⟩ := n2 NB321_320; have hcz27_0 : wc.cell? ⟨gb321, 0, none⟩ = some (.int .i64 0) := bc BK321 0; have hcz27_1 : wc.cell? ⟨gb321, 1, none⟩ = some (.int .i64 0) := bc BK321 1; have hfz27_0 := blk_frozen BK321.out 0; have hfz27_1 := blk_frozen BK321.out 1; (go_wp2); refine bodyPost_ret (results_ct rfl _ _ gb321 24 #[.int .i64 0, .int .i64 0] (0, 0) _ rfl (by refine pe ?_; refine blk_put (cs := #[.int .i64 0, .int .i64 0]) ?_ 1 _ rfl; refine pe ?_; refine blk_put (cs := #[.int .i64 0, .int .i64 0]) ?_ 0 _ rfl; refine pe ?_; exact BK321.out) Tryz.underlying24 rfl (by kernel_rfl)) rfl ?_; exact ⟨by first | rfl | (simp [errW_none, errW_some] <;> rfl) | (simp [*, errW_none, errW_some] <;> rfl), bw HB⟩
    ·replace c25 := Bool.eq_false_iff.mpr c25; subst c25; (have H1 : (if t324 = true then (some (wrap64 (-(wrap64 (t326))), wrap64 ((IntKind.u64.wrap (Int.tdiv a1 t323))), 0)) else (some (wrap64 (t326), wrap64 ((IntKind.u64.wrap (Int.tdiv a1 t323))), 0))) = some (r1, r2, r3) := by rw [if_neg (show ¬ (false = true) by decide)] at H; exact H); clear H; have H := H1; clear H1
     by_cases c28 : t324 = true
     ·subst c28; (have H1 : (some (wrap64 (-(wrap64 (t326))), wrap64 ((IntKind.u64.wrap (Int.tdiv a1 t323))), 0)) = some (r1, r2, r3) := by rw [if_pos rfl] at H; exact H); clear H; have H := H1; clear H1; simp only [Option.some.injEq, Prod.mk.injEq] at H; obtain ⟨rfl, rfl, rfl⟩ := H; obtain ⟨hnb29, hnc29⟩ := n2 NB320_321; have hcz30_0 : wc.cell? ⟨gb320, 0, none⟩ = some (.bool true) := bc BK320 0; have hcz30_1 : wc.cell? ⟨gb320, 1, none⟩ = some (.int .u64 t325) := bc BK320 1; have hcz30_2 : wc.cell? ⟨gb320, 2, none⟩ = some (.int .u64 t326) := bc BK320 2; have hfz30_0 := blk_frozen BK320.out 0; have hfz30_1 := blk_frozen BK320.out 1; have hfz30_2 := blk_frozen BK320.out 2; have hcz31_0 : wc.cell? ⟨gb321, 0, none⟩ = some (.int .i64 0) := bc BK321 0; have hcz31_1 : wc.cell? ⟨gb321, 1, none⟩ = some (.int .i64 0) := bc BK321 1; have hfz31_0 := blk_frozen BK321.out 0; have hfz31_1 := blk_frozen BK321.out 1; (go_wp2); refine bodyPost_ret (results_ct rfl _ _ gb321 24 #[.int .i64 (wrap64 (-(wrap64 (t326)))), .int .i64 (wrap64 ((IntKind.u64.wrap (Int.tdiv a1 t323))))] (0, 0) _ rfl (by refine pe ?_; refine blk_put (cs := #[.int .i64 (wrap64 (-(wrap64 (t326)))), .int .i64 0]) ?_ 1 _ rfl; refine pe ?_; refine blk_put (cs := #[.int .i64 0, .int .i64 0]) ?_ 0 _ rfl; refine pe ?_; exact BK321.out) Tryz.underlying24 rfl (by kernel_rfl)) rfl ?_; exact ⟨by first | rfl | (simp [errW_none, errW_some] <;> rfl) | (simp [*, errW_none, errW_some] <;> rfl), bw HB⟩
     ·replace c28 := Bool.eq_false_iff.mpr c28; subst c28; (have H1 : (some (wrap64 (t326), wrap64 ((IntKind.u64.wrap (Int.tdiv a1 t323))), 0)) = some (r1, r2, r3) := by rw [if_neg (show ¬ (false = true) by decide)] at H; exact H); clear H; have H := H1; clear H1; simp only [Option.some.injEq, Prod.mk.injEq] at H; obtain ⟨rfl, rfl, rfl⟩ := H; obtain ⟨hnb32, hnc32⟩ := n2 NB320_321; have hcz33_0 : wc.cell? ⟨gb320, 0, none⟩ = some (.bool false) := bc BK320 0; have hcz33_1 : wc.cell? ⟨gb320, 1, none⟩ = some (.int .u64 t325) := bc BK320 1; have hcz33_2 : wc.cell? ⟨gb320, 2, none⟩ = some (.int .u64 t326) := bc BK320 2; have hfz33_0 := blk_frozen BK320.out 0; have hfz33_1 := blk_frozen BK320.out 1; have hfz33_2 := blk_frozen BK320.out 2; have hcz34_0 : wc.cell? ⟨gb321, 0, none⟩ = some (.int .i64 0) := bc BK321 0; have hcz34_1 : wc.cell? ⟨gb321, 1, none⟩ = some (.int .i64 0) := bc BK321 1; have hfz34_0 := blk_frozen BK321.out 0; have hfz34_1 := blk_frozen BK321.out 1; (go_wp2); refine bodyPost_ret (results_ct rfl _ _ gb321 24 #[.int .i64 (wrap64 (t326)), .int .i64 (wrap64 ((IntKind.u64.wrap (Int.tdiv a1 t323))))] (0, 0) _ rfl (by refine pe ?_; refine blk_put (cs := #[.int .i64 (wrap64 (t326)), .int .i64 0]) ?_ 1 _ rfl; refine pe ?_; refine blk_put (cs := #[.int .i64 0, .int .i64 0]) ?_ 0 _ rfl; refine pe ?_; exact BK321.out) Tryz.underlying24 rfl (by kernel_rfl)) rfl ?_; exact ⟨by first | rfl | (simp [errW_none, errW_some] <;> rfl) | (simp [*, errW_none, errW_some] <;> rfl), bw HB⟩

end Go.Proofs.YtbapkiclgkddcaaGreatDoor.G

/- ratio.Parse: its contract. The loop over the digits behind the point is walked for ASCII texts of at most nine bytes. -/
namespace Go.Proofs.YtbapkiclgkddcaaGreatDoor.Given
open Go.RowKit Go.Lib Go.Proofs.YtbapkiclgkddcaaGreatDoor.Short Go.Proofs.YtbapkiclgkddcaaGreatDoor.G Go.Proofs.YtbapkiclgkddcaaGreatDoorW.PrintWords Go.Proofs.YtbapkiclgkddcaaGreatDoorW.PrintLast Go.Proofs.YtbapkiclgkddcaaGreatDoorW.PrintMore
set_option linter.unusedVariables false
def ratio_Parse.tail (k : Nat) (neg : Bool) (wh be : ByteArray) (sg : Int) : Option (Int × Int × Int) :=
  (ratio_digits.f wh 19).bind fun c1 => if c1 = true then
    (if sg = 47 then (ratio_digits.f be 19).bind fun c2 => (if c2 = true then (parseU wh).bind fun n => (parseU be).bind fun d => (if d = 0 then some (0, 0, 2) else ratio_lowest.f k neg 0 n d) else some (0, 0, 7))
    else if sg = 46 then (ratio_digits.f be 9).bind fun c2 => (if c2 = true then (if asciiB be.data.toList = true ∧ be.size ≤ 9 then (parseU wh).bind fun n => (parseU be).bind fun f => (bits_Mul64.f n ((10 ^ be.size : Nat) : Int)).bind fun b => (ratio_wide_plus.f k neg b.1 b.2 neg 0 f).bind fun t => ratio_lowest.f k t.1 t.2.1 t.2.2 ((10 ^ be.size : Nat) : Int) else none) else some (0, 0, 7))
    else (parseU wh).bind fun n => ratio_lowest.f k neg 0 n 1)
  else some (0, 0, 7)
def ratio_Parse.f (k : Nat) (a0 : ByteArray) : Option (Int × Int × Int) :=
  (strings_CutPrefix.f a0 (⟨#[45]⟩ : ByteArray)).bind fun b => (strings_IndexAny.f b.1 (⟨#[47, 46]⟩ : ByteArray)).bind fun at_ =>
    if 0 ≤ at_ then (if at_ < (b.1.size : Int) then (if b.1.size ≤ 140737488351232 then ratio_Parse.tail k b.2 (b.1.extract 0 at_.toNat) (b.1.extract (at_ + 1).toNat b.1.size) (bt b.1 at_) else none) else none) else ratio_Parse.tail k b.2 b.1 (⟨#[]⟩ : ByteArray) 0
theorem ratio_Parse.mono : ∀ a0 k, LeO (ratio_Parse.f k a0) (ratio_Parse.f (k + 1) a0) := by
  intro a0 k
  unfold ratio_Parse.f ratio_Parse.tail
  repeat' first
  | (with_reducible exact ratio_lowest.mono _ _ _ _ _)
  | (with_reducible exact ratio_wide_plus.mono _ _ _ _ _ _ _)
  | (with_reducible exact LeO.refl _)
  | (with_reducible exact LeO.none _)
  | (with_reducible refine LeO.ite ?_ ?_)
  | (with_reducible refine LeO.bind ?_ (fun _ => ?_))
  | exact LeO.none _
  | refine LeO.ite ?_ ?_
  | refine LeO.bind ?_ (fun _ => ?_)
set_option maxHeartbeats 8000000 in
set_option maxRecDepth 100000 in
theorem ratio_Parse.calls (k : Nat) (a0 : ByteArray) (r1 r2 r3 : Int) (w : World) (h : ratio_Parse.f k a0 = some (r1, r2, r3)) :
    Calls Tryz.prog 9 #[.string a0] w fun e w' => e = .returned (.tuple #[.agg #[.int .i64 r1, .int .i64 r2], .int .i64 r3]) ∧ Below w.heap.size w w' := by
  have hu24 := Tryz.underlying24
  have hu58 := Tryz.underlying58
  have HB := Aside0.mk (Below.refl w.heap.size w)
  unfold ratio_Parse.f at h
  replace h := Option.bind_eq_some_iff.mp h
  obtain ⟨⟨body, neg⟩, h1, h⟩ := h
  replace h := Option.bind_eq_some_iff.mp h
  obtain ⟨at_, h2, h⟩ := h
  dsimp only at h2 h
  have A1 := Aside0.mk h1
  have A2 := Aside0.mk h2
  have H := Aside0.mk h
  clear h1 h2 h
  go_enter Tryz.func9, Tryz.ntmps9
  go_upto_if 25 with (first | ((with_reducible refine gate_dst (N := 2) rfl ?_); refine box_event ?hg (N := 2) ?hd (cs := #[.int .i64 0, .int .i64 0]) (t := 24) ?hr ?_; (case hd => rfl); (case hg => rfl); (case hr => first | (go_simp; done) | (go_simp; rfl)); intro gb hg w1 hbox hb; have BK := Aside0.mk hbox; have GW := gs HB hg; replace HB := wb HB hb; clear hb hbox hg) | (go_at_call 25; (with_reducible refine (strings_CutPrefix.calls a0 (⟨#[45]⟩ : ByteArray) body neg _ A1.out).mono ?_); rintro e w2 ⟨rfl, hd⟩; replace BK := kb BK hd.below; replace HB := wb HB hd.below; clear hd) | (go_at_call 26; (with_reducible refine (strings_IndexAny.calls body (⟨#[47, 46]⟩ : ByteArray) at_ _ A2.out).mono ?_); rintro e w3 ⟨rfl, hb⟩; replace BK := kb BK hb; replace HB := wb HB hb; clear hb))
  (try simp only [Act.put, List.setIfInBounds_toArray, List.set_cons_zero, List.set_cons_succ])
  go_cut [7, 8, 9] (fun v7 v8 v9 wc => ∃ (wh be : ByteArray) (sg : Int), v7 = .string wh ∧ v8 = .string be ∧ v9 = .int .u8 sg ∧ Aside0 (ratio_Parse.tail k neg wh be sg = some (r1, r2, r3)) ∧ Aside0 (wc.heap[gb]? = some (.cells #[.int .i64 0, .int .i64 0] 24 (0, 0))) ∧ Aside0 (Below w.heap.size w wc))
  case first =>
    have h := H.out
    by_cases c : 0 ≤ at_
    · rw [if_pos c] at h
      by_cases c2 : at_ < (body.size : Int)
      · rw [if_pos c2] at h
        split at h
        · rename_i c3
          obtain ⟨p, rfl⟩ := Int.eq_ofNat_of_zero_le c
          obtain ⟨p1, hp1⟩ : ∃ p1, p1 = p + 1 := ⟨_, rfl⟩
          have H2 : Aside0 (ratio_Parse.tail k neg (body.extract 0 p) (body.extract p1 body.size) (bt body p) = some (r1, r2, r3)) := ⟨by rw [hp1]; exact h⟩
          clear h
          have f1 : decide (0 ≤ (p : Int)) = true := decide_eq_true c
          have f2 : (p : Int) ≤ (body.size : Int) := by omega
          have f3 : IntKind.i64.wrap ((p : Int) + 1) = (p1 : Int) := by rw [IntKind.wrap_i64]; omega
          have f4 : (p1 : Int) ≤ (body.size : Int) := by omega
          have f5 : (p : Int) < (body.size : Int) := c2
          have f6 : p < body.size := by omega
          clear hp1
          go_wp2_with fail
          go_big_region
          all_goals go_wp2
          go_meet
          case rel => exact ⟨_, _, _, rfl, rfl, by simp [bt, f6], H2, ⟨bq BK⟩, ⟨bw HB⟩⟩
        · cases h
      · rw [if_neg c2] at h; cases h
    · rw [if_neg c] at h
      have H2 := Aside0.mk h
      clear h
      have f1 : decide (0 ≤ at_) = false := decide_eq_false c
      go_wp2
      go_meet
      case rel => exact ⟨body, _, 0, rfl, rfl, rfl, H2, ⟨bq BK⟩, ⟨bw HB⟩⟩
  case rest =>
    clear H A1 A2
    obtain ⟨wh, be, sg, rfl, rfl, rfl, H, BK, HB⟩ := hcut
    have h := H.out
    clear H
    unfold ratio_Parse.tail at h
    replace h := Option.bind_eq_some_iff.mp h
    obtain ⟨c1, hd1, h⟩ := h
    have D1 := Aside0.mk hd1
    clear hd1
    cases c1 with
    | false =>
      rw [if_neg (by simp)] at h
      simp only [Option.some.injEq, Prod.mk.injEq] at h
      obtain ⟨rfl, rfl, rfl⟩ := h
      go_wp2_with (first | (go_at_call 27; (with_reducible refine (ratio_digits.calls wh 19 _ _ D1.out).mono ?_); rintro e w5 ⟨rfl, hb⟩; replace BK := kb BK hb; have hcr0 : w5.cell? ⟨gb, 0, none⟩ = some (.int .i64 0) := (blk_cell BK.out 0).trans rfl; have hcr1 : w5.cell? ⟨gb, 1, none⟩ = some (.int .i64 0) := (blk_cell BK.out 1).trans rfl; have hfr0 := blk_frozen BK.out 0; have hfr1 := blk_frozen BK.out 1; replace HB := wb HB hb; clear hb))
      (refine bodyPost_ret (results_ct rfl _ _ gb 24 #[.int .i64 0, .int .i64 0] (0, 0) _ rfl (by refine pe ?_; refine blk_put (cs := #[.int .i64 0, .int .i64 0]) ?_ 1 _ rfl; refine pe ?_; refine blk_put (cs := #[.int .i64 0, .int .i64 0]) ?_ 0 _ rfl; refine pe ?_; exact BK.out) Tryz.underlying24 rfl (by kernel_rfl)) rfl ?_); exact ⟨by first | rfl | (simp; done), bw HB⟩
    | true =>
      rw [if_pos rfl] at h
      by_cases s47 : sg = 47
      · subst s47
        rw [if_pos rfl] at h
        replace h := Option.bind_eq_some_iff.mp h
        obtain ⟨c2, hd2, h⟩ := h
        have D2 := Aside0.mk hd2
        clear hd2
        cases c2 with
        | false =>
          rw [if_neg (by simp)] at h
          simp only [Option.some.injEq, Prod.mk.injEq] at h
          obtain ⟨rfl, rfl, rfl⟩ := h
          go_wp2_with (first | (go_at_call 27; (with_reducible refine (ratio_digits.calls wh 19 _ _ D1.out).mono ?_); rintro e w5 ⟨rfl, hb⟩; replace BK := kb BK hb; have hcr0 : w5.cell? ⟨gb, 0, none⟩ = some (.int .i64 0) := (blk_cell BK.out 0).trans rfl; have hcr1 : w5.cell? ⟨gb, 1, none⟩ = some (.int .i64 0) := (blk_cell BK.out 1).trans rfl; have hfr0 := blk_frozen BK.out 0; have hfr1 := blk_frozen BK.out 1; replace HB := wb HB hb; clear hb) | (go_at_call 27; (with_reducible refine (ratio_digits.calls be 19 _ _ D2.out).mono ?_); rintro e w6 ⟨rfl, hb⟩; replace BK := kb BK hb; have hcr0 : w6.cell? ⟨gb, 0, none⟩ = some (.int .i64 0) := (blk_cell BK.out 0).trans rfl; have hcr1 : w6.cell? ⟨gb, 1, none⟩ = some (.int .i64 0) := (blk_cell BK.out 1).trans rfl; have hfr0 := blk_frozen BK.out 0; have hfr1 := blk_frozen BK.out 1; replace HB := wb HB hb; clear hb))
          (refine bodyPost_ret (results_ct rfl _ _ gb 24 #[.int .i64 0, .int .i64 0] (0, 0) _ rfl (by refine pe ?_; refine blk_put (cs := #[.int .i64 0, .int .i64 0]) ?_ 1 _ rfl; refine pe ?_; refine blk_put (cs := #[.int .i64 0, .int .i64 0]) ?_ 0 _ rfl; refine pe ?_; exact BK.out) Tryz.underlying24 rfl (by kernel_rfl)) rfl ?_); exact ⟨by first | rfl | (simp; done), bw HB⟩
        | true =>
          rw [if_pos rfl] at h
          replace h := Option.bind_eq_some_iff.mp h
          obtain ⟨n, hn, h⟩ := h
          replace h := Option.bind_eq_some_iff.mp h
          obtain ⟨dn, hdn, h⟩ := h
          have P1 := Aside0.mk hn
          have P2 := Aside0.mk hdn
          clear hn hdn
          by_cases z : dn = 0
          · subst z
            rw [if_pos rfl] at h
            simp only [Option.some.injEq, Prod.mk.injEq] at h
            obtain ⟨rfl, rfl, rfl⟩ := h
            go_wp2_with (first | (go_at_call 27; (with_reducible refine (ratio_digits.calls wh 19 _ _ D1.out).mono ?_); rintro e w5 ⟨rfl, hb⟩; replace BK := kb BK hb; have hcr0 : w5.cell? ⟨gb, 0, none⟩ = some (.int .i64 0) := (blk_cell BK.out 0).trans rfl; have hcr1 : w5.cell? ⟨gb, 1, none⟩ = some (.int .i64 0) := (blk_cell BK.out 1).trans rfl; have hfr0 := blk_frozen BK.out 0; have hfr1 := blk_frozen BK.out 1; replace HB := wb HB hb; clear hb) | (go_at_call 27; (with_reducible refine (ratio_digits.calls be 19 _ _ D2.out).mono ?_); rintro e w6 ⟨rfl, hb⟩; replace BK := kb BK hb; have hcr0 : w6.cell? ⟨gb, 0, none⟩ = some (.int .i64 0) := (blk_cell BK.out 0).trans rfl; have hcr1 : w6.cell? ⟨gb, 1, none⟩ = some (.int .i64 0) := (blk_cell BK.out 1).trans rfl; have hfr0 := blk_frozen BK.out 0; have hfr1 := blk_frozen BK.out 1; replace HB := wb HB hb; clear hb) | (go_at_call 28; (with_reducible refine (parseU_calls wh n _ P1.out).mono ?_); rintro e w7 ⟨rfl, hb⟩; replace BK := kb BK hb; have hcr0 : w7.cell? ⟨gb, 0, none⟩ = some (.int .i64 0) := (blk_cell BK.out 0).trans rfl; have hcr1 : w7.cell? ⟨gb, 1, none⟩ = some (.int .i64 0) := (blk_cell BK.out 1).trans rfl; have hfr0 := blk_frozen BK.out 0; have hfr1 := blk_frozen BK.out 1; replace HB := wb HB hb; clear hb) | ((with_reducible refine gate_dst (N := 12) rfl ?_); refine box_event ?hg (N := 12) ?hd (cs := #[.bool false, .int .u64 0, .int .u64 0]) (t := 58) ?hr ?_; (case hd => rfl); (case hg => rfl); (case hr => first | (go_simp; done) | (go_simp; rfl)); intro gw hg w9 hbox hb; have BW := Aside0.mk hbox; have NRW := nl BK hg; have GWw := gs HB hg; replace BK := kb BK hb; replace HB := wb HB hb; obtain ⟨hn1, hn2⟩ := n2 NRW; have hcw0 : w9.cell? ⟨gw, 0, none⟩ = some (.bool false) := (blk_cell BW.out 0).trans rfl; have hcw1 : w9.cell? ⟨gw, 1, none⟩ = some (.int .u64 0) := (blk_cell BW.out 1).trans rfl; have hcw2 : w9.cell? ⟨gw, 2, none⟩ = some (.int .u64 0) := (blk_cell BW.out 2).trans rfl; have hfw0 := blk_frozen BW.out 0; have hfw1 := blk_frozen BW.out 1; have hfw2 := blk_frozen BW.out 2; clear hb hbox hg) | (go_at_call 28; (with_reducible refine (parseU_calls be 0 _ P2.out).mono ?_); rintro e w8 ⟨rfl, hb⟩; replace BK := kb BK hb; have hcr0 : w8.cell? ⟨gb, 0, none⟩ = some (.int .i64 0) := (blk_cell BK.out 0).trans rfl; have hcr1 : w8.cell? ⟨gb, 1, none⟩ = some (.int .i64 0) := (blk_cell BK.out 1).trans rfl; have hfr0 := blk_frozen BK.out 0; have hfr1 := blk_frozen BK.out 1; replace BW := Aside0.mk (blk_below (g := gw) (o := .cells #[.bool neg, .int .u64 0, .int .u64 n] 58 (0, 0)) (by refine pe ?_; refine blk_put (cs := #[.bool neg, .int .u64 0, .int .u64 0]) ?_ 2 _ rfl; refine pe ?_; refine blk_put (cs := #[.bool neg, .int .u64 0, .int .u64 0]) ?_ 1 _ rfl; refine pe ?_; refine blk_put (cs := #[.bool false, .int .u64 0, .int .u64 0]) ?_ 0 _ rfl; refine pe ?_; exact BW.out) hb); have hcx0 : w8.cell? ⟨gw, 0, none⟩ = some (.bool neg) := (blk_cell BW.out 0).trans rfl; have hcx1 : w8.cell? ⟨gw, 1, none⟩ = some (.int .u64 0) := (blk_cell BW.out 1).trans rfl; have hcx2 : w8.cell? ⟨gw, 2, none⟩ = some (.int .u64 n) := (blk_cell BW.out 2).trans rfl; replace HB := wb HB hb; clear hb))
            (refine bodyPost_ret (results_ct rfl _ _ gb 24 #[.int .i64 0, .int .i64 0] (0, 0) _ rfl (by refine pe ?_; refine blk_put (cs := #[.int .i64 0, .int .i64 0]) ?_ 1 _ rfl; refine pe ?_; refine blk_put (cs := #[.int .i64 0, .int .i64 0]) ?_ 0 _ rfl; refine pe ?_; exact BK.out) Tryz.underlying24 rfl (by kernel_rfl)) rfl ?_); exact ⟨by first | rfl | (simp; done), bw HB⟩
          · rw [if_neg z] at h
            have L1 := Aside0.mk h
            clear h
            have z1 : ((dn : Int) == 0) = false := beq_eq_false_iff_ne.mpr (by omega)
            have z2 : ¬ (dn : Int) = 0 := by omega
            go_wp2_with (first | (go_at_call 27; (with_reducible refine (ratio_digits.calls wh 19 _ _ D1.out).mono ?_); rintro e w5 ⟨rfl, hb⟩; replace BK := kb BK hb; have hcr0 : w5.cell? ⟨gb, 0, none⟩ = some (.int .i64 0) := (blk_cell BK.out 0).trans rfl; have hcr1 : w5.cell? ⟨gb, 1, none⟩ = some (.int .i64 0) := (blk_cell BK.out 1).trans rfl; have hfr0 := blk_frozen BK.out 0; have hfr1 := blk_frozen BK.out 1; replace HB := wb HB hb; clear hb) | (go_at_call 27; (with_reducible refine (ratio_digits.calls be 19 _ _ D2.out).mono ?_); rintro e w6 ⟨rfl, hb⟩; replace BK := kb BK hb; have hcr0 : w6.cell? ⟨gb, 0, none⟩ = some (.int .i64 0) := (blk_cell BK.out 0).trans rfl; have hcr1 : w6.cell? ⟨gb, 1, none⟩ = some (.int .i64 0) := (blk_cell BK.out 1).trans rfl; have hfr0 := blk_frozen BK.out 0; have hfr1 := blk_frozen BK.out 1; replace HB := wb HB hb; clear hb) | (go_at_call 28; (with_reducible refine (parseU_calls wh n _ P1.out).mono ?_); rintro e w7 ⟨rfl, hb⟩; replace BK := kb BK hb; have hcr0 : w7.cell? ⟨gb, 0, none⟩ = some (.int .i64 0) := (blk_cell BK.out 0).trans rfl; have hcr1 : w7.cell? ⟨gb, 1, none⟩ = some (.int .i64 0) := (blk_cell BK.out 1).trans rfl; have hfr0 := blk_frozen BK.out 0; have hfr1 := blk_frozen BK.out 1; replace HB := wb HB hb; clear hb) | ((with_reducible refine gate_dst (N := 12) rfl ?_); refine box_event ?hg (N := 12) ?hd (cs := #[.bool false, .int .u64 0, .int .u64 0]) (t := 58) ?hr ?_; (case hd => rfl); (case hg => rfl); (case hr => first | (go_simp; done) | (go_simp; rfl)); intro gw hg w9 hbox hb; have BW := Aside0.mk hbox; have NRW := nl BK hg; have GWw := gs HB hg; replace BK := kb BK hb; replace HB := wb HB hb; obtain ⟨hn1, hn2⟩ := n2 NRW; have hcw0 : w9.cell? ⟨gw, 0, none⟩ = some (.bool false) := (blk_cell BW.out 0).trans rfl; have hcw1 : w9.cell? ⟨gw, 1, none⟩ = some (.int .u64 0) := (blk_cell BW.out 1).trans rfl; have hcw2 : w9.cell? ⟨gw, 2, none⟩ = some (.int .u64 0) := (blk_cell BW.out 2).trans rfl; have hfw0 := blk_frozen BW.out 0; have hfw1 := blk_frozen BW.out 1; have hfw2 := blk_frozen BW.out 2; clear hb hbox hg) | (go_at_call 28; (with_reducible refine (parseU_calls be dn _ P2.out).mono ?_); rintro e w8 ⟨rfl, hb⟩; replace BK := kb BK hb; have hcr0 : w8.cell? ⟨gb, 0, none⟩ = some (.int .i64 0) := (blk_cell BK.out 0).trans rfl; have hcr1 : w8.cell? ⟨gb, 1, none⟩ = some (.int .i64 0) := (blk_cell BK.out 1).trans rfl; have hfr0 := blk_frozen BK.out 0; have hfr1 := blk_frozen BK.out 1; replace BW := Aside0.mk (blk_below (g := gw) (o := .cells #[.bool neg, .int .u64 0, .int .u64 n] 58 (0, 0)) (by refine pe ?_; refine blk_put (cs := #[.bool neg, .int .u64 0, .int .u64 0]) ?_ 2 _ rfl; refine pe ?_; refine blk_put (cs := #[.bool neg, .int .u64 0, .int .u64 0]) ?_ 1 _ rfl; refine pe ?_; refine blk_put (cs := #[.bool false, .int .u64 0, .int .u64 0]) ?_ 0 _ rfl; refine pe ?_; exact BW.out) hb); have hcx0 : w8.cell? ⟨gw, 0, none⟩ = some (.bool neg) := (blk_cell BW.out 0).trans rfl; have hcx1 : w8.cell? ⟨gw, 1, none⟩ = some (.int .u64 0) := (blk_cell BW.out 1).trans rfl; have hcx2 : w8.cell? ⟨gw, 2, none⟩ = some (.int .u64 n) := (blk_cell BW.out 2).trans rfl; replace HB := wb HB hb; clear hb) | (go_at_call 31; (with_reducible refine (ratio_lowest.calls k neg _ _ _ r1 r2 r3 _ L1.out).mono ?_); rintro e w10 ⟨rfl, hb⟩; replace BK := kb BK hb; replace HB := wb HB hb; have hcr0 : w10.cell? ⟨gb, 0, none⟩ = some (.int .i64 0) := (blk_cell BK.out 0).trans rfl; have hcr1 : w10.cell? ⟨gb, 1, none⟩ = some (.int .i64 0) := (blk_cell BK.out 1).trans rfl; have hfr0 := blk_frozen BK.out 0; have hfr1 := blk_frozen BK.out 1; clear hb))
            (refine bodyPost_ret (results_ct rfl _ _ gb 24 #[.int .i64 r1, .int .i64 r2] (0, 0) _ rfl (by refine pe ?_; refine blk_put (cs := #[.int .i64 r1, .int .i64 0]) ?_ 1 _ rfl; refine pe ?_; refine blk_put (cs := #[.int .i64 0, .int .i64 0]) ?_ 0 _ rfl; refine pe ?_; exact BK.out) Tryz.underlying24 rfl (by kernel_rfl)) rfl ?_); exact ⟨by first | rfl | (simp; done), bw HB⟩
      · rw [if_neg s47] at h
        by_cases s46 : sg = 46
        · subst s46
          rw [if_pos rfl] at h
          replace h := Option.bind_eq_some_iff.mp h
          obtain ⟨c2, hd2, h⟩ := h
          have D2 := Aside0.mk hd2
          clear hd2
          cases c2 with
          | false =>
            rw [if_neg (by simp)] at h
            simp only [Option.some.injEq, Prod.mk.injEq] at h
            obtain ⟨rfl, rfl, rfl⟩ := h
            go_wp2_with (first | (go_at_call 27; (with_reducible refine (ratio_digits.calls wh 19 _ _ D1.out).mono ?_); rintro e w5 ⟨rfl, hb⟩; replace BK := kb BK hb; have hcr0 : w5.cell? ⟨gb, 0, none⟩ = some (.int .i64 0) := (blk_cell BK.out 0).trans rfl; have hcr1 : w5.cell? ⟨gb, 1, none⟩ = some (.int .i64 0) := (blk_cell BK.out 1).trans rfl; have hfr0 := blk_frozen BK.out 0; have hfr1 := blk_frozen BK.out 1; replace HB := wb HB hb; clear hb) | (go_at_call 27; (with_reducible refine (ratio_digits.calls be 9 _ _ D2.out).mono ?_); rintro e w6 ⟨rfl, hb⟩; replace BK := kb BK hb; have hcr0 : w6.cell? ⟨gb, 0, none⟩ = some (.int .i64 0) := (blk_cell BK.out 0).trans rfl; have hcr1 : w6.cell? ⟨gb, 1, none⟩ = some (.int .i64 0) := (blk_cell BK.out 1).trans rfl; have hfr0 := blk_frozen BK.out 0; have hfr1 := blk_frozen BK.out 1; replace HB := wb HB hb; clear hb))
            (refine bodyPost_ret (results_ct rfl _ _ gb 24 #[.int .i64 0, .int .i64 0] (0, 0) _ rfl (by refine pe ?_; refine blk_put (cs := #[.int .i64 0, .int .i64 0]) ?_ 1 _ rfl; refine pe ?_; refine blk_put (cs := #[.int .i64 0, .int .i64 0]) ?_ 0 _ rfl; refine pe ?_; exact BK.out) Tryz.underlying24 rfl (by kernel_rfl)) rfl ?_); exact ⟨by first | rfl | (simp; done), bw HB⟩
          | true =>
            rw [if_pos rfl] at h
            by_cases hc : asciiB be.data.toList = true ∧ be.size ≤ 9
            · rw [if_pos hc] at h
              replace h := Option.bind_eq_some_iff.mp h
              obtain ⟨n, hn, h⟩ := h
              replace h := Option.bind_eq_some_iff.mp h
              obtain ⟨fr, hf, h⟩ := h
              replace h := Option.bind_eq_some_iff.mp h
              obtain ⟨⟨mh, ml⟩, hm, h⟩ := h
              replace h := Option.bind_eq_some_iff.mp h
              obtain ⟨⟨ts, th, tl⟩, ht, h⟩ := h
              dsimp only at ht h
              have P1 := Aside0.mk hn
              have P2 := Aside0.mk hf
              have M1 := Aside0.mk hm
              have T1 := Aside0.mk ht
              have L1 := Aside0.mk h
              have HC := Aside0.mk hc
              clear hn hf hm ht h hc
              go_wp2_with (first | (go_at_call 27; (with_reducible refine (ratio_digits.calls wh 19 _ _ D1.out).mono ?_); rintro e w5 ⟨rfl, hb⟩; replace BK := kb BK hb; have hcr0 : w5.cell? ⟨gb, 0, none⟩ = some (.int .i64 0) := (blk_cell BK.out 0).trans rfl; have hcr1 : w5.cell? ⟨gb, 1, none⟩ = some (.int .i64 0) := (blk_cell BK.out 1).trans rfl; have hfr0 := blk_frozen BK.out 0; have hfr1 := blk_frozen BK.out 1; replace HB := wb HB hb; clear hb) | (go_at_call 27; (with_reducible refine (ratio_digits.calls be 9 _ _ D2.out).mono ?_); rintro e w6 ⟨rfl, hb⟩; replace BK := kb BK hb; have hcr0 : w6.cell? ⟨gb, 0, none⟩ = some (.int .i64 0) := (blk_cell BK.out 0).trans rfl; have hcr1 : w6.cell? ⟨gb, 1, none⟩ = some (.int .i64 0) := (blk_cell BK.out 1).trans rfl; have hfr0 := blk_frozen BK.out 0; have hfr1 := blk_frozen BK.out 1; replace HB := wb HB hb; clear hb) | (go_at_call 28; (with_reducible refine (parseU_calls wh n _ P1.out).mono ?_); rintro e w7 ⟨rfl, hb⟩; replace BK := kb BK hb; have hcr0 : w7.cell? ⟨gb, 0, none⟩ = some (.int .i64 0) := (blk_cell BK.out 0).trans rfl; have hcr1 : w7.cell? ⟨gb, 1, none⟩ = some (.int .i64 0) := (blk_cell BK.out 1).trans rfl; have hfr0 := blk_frozen BK.out 0; have hfr1 := blk_frozen BK.out 1; replace HB := wb HB hb; clear hb) | ((with_reducible refine gate_dst (N := 12) rfl ?_); refine box_event ?hg (N := 12) ?hd (cs := #[.bool false, .int .u64 0, .int .u64 0]) (t := 58) ?hr ?_; (case hd => rfl); (case hg => rfl); (case hr => first | (go_simp; done) | (go_simp; rfl)); intro gw hg w9 hbox hb; have BW := Aside0.mk hbox; have NRW := nl BK hg; have GWw := gs HB hg; replace BK := kb BK hb; replace HB := wb HB hb; obtain ⟨hn1, hn2⟩ := n2 NRW; have hcw0 : w9.cell? ⟨gw, 0, none⟩ = some (.bool false) := (blk_cell BW.out 0).trans rfl; have hcw1 : w9.cell? ⟨gw, 1, none⟩ = some (.int .u64 0) := (blk_cell BW.out 1).trans rfl; have hcw2 : w9.cell? ⟨gw, 2, none⟩ = some (.int .u64 0) := (blk_cell BW.out 2).trans rfl; have hfw0 := blk_frozen BW.out 0; have hfw1 := blk_frozen BW.out 1; have hfw2 := blk_frozen BW.out 2; clear hb hbox hg))
              obtain ⟨W, hW⟩ : ∃ W, W = (((w9.setCell ⟨gw, 0, none⟩ (.bool neg)).setCell ⟨gw, 1, none⟩ (.int .u64 0)).setCell ⟨gw, 2, none⟩ (.int .u64 n)) := ⟨_, rfl⟩
              rw [← hW]
              replace BK : Aside0 (W.heap[gb]? = some (.cells #[.int .i64 0, .int .i64 0] 24 (0, 0))) := ⟨by rw [hW]; exact bq BK⟩
              replace BW : Aside0 (W.heap[gw]? = some (.cells #[.bool neg, .int .u64 0, .int .u64 n] 58 (0, 0))) := ⟨by rw [hW]; refine pe ?_; refine blk_put (cs := #[.bool neg, .int .u64 0, .int .u64 0]) ?_ 2 _ rfl; refine pe ?_; refine blk_put (cs := #[.bool neg, .int .u64 0, .int .u64 0]) ?_ 1 _ rfl; refine pe ?_; refine blk_put (cs := #[.bool false, .int .u64 0, .int .u64 0]) ?_ 0 _ rfl; refine pe ?_; exact BW.out⟩
              replace HB : Aside0 (Below w.heap.size w W) := ⟨by rw [hW]; exact bw HB⟩
              have hws : W.heap.size = w9.heap.size := by rw [hW]; simp
              clear hW hcw0 hcw1 hcw2 hcr0 hcr1 hfr0 hfr1 hfw0 hfw1 hfw2
              go_loopg [13] be.size (fun g v wx => ∃ i D : Nat, i + g = be.size ∧ v = .int .u64 D ∧ Aside0 (D = 10 ^ i) ∧ wx = W.iter be i)
              case atStart => exact ⟨0, 1, by omega, rfl, ⟨rfl⟩, rfl⟩
              case round =>
                obtain ⟨i, D, hig, rfl, HD, rfl⟩ := hrel
                cases gk with
                | zero =>
                  obtain rfl : i = be.size := by omega
                  have hnx := fun ty => run_next_end (P := Tryz.prog) W be be.size ty (Nat.lt_irrefl _)
                  rw [hws] at hnx
                  have M2 : Aside0 (bits_Mul64.f n (D : Int) = some (mh, ml)) := ⟨by rw [HD.out]; exact M1.out⟩
                  have L2 : Aside0 (ratio_lowest.f k ts th tl (D : Int) = some (r1, r2, r3)) := ⟨by rw [HD.out]; exact L1.out⟩
                  replace BK : Aside0 ((W.iter be be.size).heap[gb]? = some (.cells #[.int .i64 0, .int .i64 0] 24 (0, 0))) := ⟨blk_alloc BK.out _⟩
                  replace BW : Aside0 ((W.iter be be.size).heap[gw]? = some (.cells #[.bool neg, .int .u64 0, .int .u64 n] 58 (0, 0))) := ⟨blk_alloc BW.out _⟩
                  replace HB : Aside0 (Below w.heap.size w (W.iter be be.size)) := ⟨below_alloc HB.out _⟩
                  go_wp2_with (first | (go_at_call 28; (with_reducible refine (parseU_calls be fr _ P2.out).mono ?_); rintro e w11 ⟨rfl, hb⟩; replace BK := kb BK hb; have hcr0 : w11.cell? ⟨gb, 0, none⟩ = some (.int .i64 0) := (blk_cell BK.out 0).trans rfl; have hcr1 : w11.cell? ⟨gb, 1, none⟩ = some (.int .i64 0) := (blk_cell BK.out 1).trans rfl; have hfr0 := blk_frozen BK.out 0; have hfr1 := blk_frozen BK.out 1; replace BW := kb BW hb; have hcx0 : w11.cell? ⟨gw, 0, none⟩ = some (.bool neg) := (blk_cell BW.out 0).trans rfl; have hcx1 : w11.cell? ⟨gw, 1, none⟩ = some (.int .u64 0) := (blk_cell BW.out 1).trans rfl; have hcx2 : w11.cell? ⟨gw, 2, none⟩ = some (.int .u64 n) := (blk_cell BW.out 2).trans rfl; replace HB := wb HB hb; clear hb) | (go_at_call 29; (with_reducible refine (bits_Mul64.calls n D mh ml _ M2.out).mono ?_); rintro e w12 ⟨rfl, hd⟩; replace BK := kb BK hd.below; replace BW := kb BW hd.below; replace HB := wb HB hd.below; have hcy0 : w12.cell? ⟨gw, 0, none⟩ = some (.bool neg) := (blk_cell BW.out 0).trans rfl; have hcy1 : w12.cell? ⟨gw, 1, none⟩ = some (.int .u64 0) := (blk_cell BW.out 1).trans rfl; have hcy2 : w12.cell? ⟨gw, 2, none⟩ = some (.int .u64 n) := (blk_cell BW.out 2).trans rfl; have hfy0 := blk_frozen BW.out 0; have hfy1 := blk_frozen BW.out 1; have hfy2 := blk_frozen BW.out 2; clear hd) | (go_at_call 30; (with_reducible refine (ratio_wide_plus.calls k neg mh ml neg 0 fr ts th tl _ T1.out).mono ?_); rintro e w13 ⟨rfl, hb⟩; replace BK := kb BK hb; replace BW := Aside0.mk (blk_below (g := gw) (o := .cells #[.bool neg, .int .u64 mh, .int .u64 ml] 58 (0, 0)) (by refine pe ?_; refine blk_put (cs := #[.bool neg, .int .u64 mh, .int .u64 n]) ?_ 2 _ rfl; refine pe ?_; refine blk_put (cs := #[.bool neg, .int .u64 0, .int .u64 n]) ?_ 1 _ rfl; refine pe ?_; exact BW.out) hb); replace HB := wb HB hb; have hcz0 : w13.cell? ⟨gw, 0, none⟩ = some (.bool neg) := (blk_cell BW.out 0).trans rfl; have hcz1 : w13.cell? ⟨gw, 1, none⟩ = some (.int .u64 mh) := (blk_cell BW.out 1).trans rfl; have hcz2 : w13.cell? ⟨gw, 2, none⟩ = some (.int .u64 ml) := (blk_cell BW.out 2).trans rfl; have hfz0 := blk_frozen BW.out 0; have hfz1 := blk_frozen BW.out 1; have hfz2 := blk_frozen BW.out 2; clear hb) | (go_at_call 31; (with_reducible refine (ratio_lowest.calls k ts th tl _ r1 r2 r3 _ L2.out).mono ?_); rintro e w14 ⟨rfl, hb⟩; replace BK := kb BK hb; replace HB := wb HB hb; have hcr0 : w14.cell? ⟨gb, 0, none⟩ = some (.int .i64 0) := (blk_cell BK.out 0).trans rfl; have hcr1 : w14.cell? ⟨gb, 1, none⟩ = some (.int .i64 0) := (blk_cell BK.out 1).trans rfl; have hfr0 := blk_frozen BK.out 0; have hfr1 := blk_frozen BK.out 1; clear hb))
                  (refine bodyPost_ret (results_ct rfl _ _ gb 24 #[.int .i64 r1, .int .i64 r2] (0, 0) _ rfl (by refine pe ?_; refine blk_put (cs := #[.int .i64 r1, .int .i64 0]) ?_ 1 _ rfl; refine pe ?_; refine blk_put (cs := #[.int .i64 0, .int .i64 0]) ?_ 0 _ rfl; refine pe ?_; exact BK.out) Tryz.underlying24 rfl (by kernel_rfl)) rfl ?_); exact ⟨by first | rfl | (simp; done), bw HB⟩
                | succ g =>
                  have hi : i < be.size := by omega
                  have hx128 : (be[i]'hi).toNat < 128 := asciiB_of HC.out.1 i _ (Lib.data_getElem? be i hi)
                  have hnx := fun ty => run_next_ascii (P := Tryz.prog) W be i ty hi hx128
                  rw [hws] at hnx
                  obtain ⟨D2, hD2⟩ : ∃ D2, D2 = D * 10 := ⟨_, rfl⟩
                  have HD2 : Aside0 (D2 = 10 ^ (i + 1) ∧ D2 < 18446744073709551616) := ⟨by
                    rw [hD2, HD.out, Nat.pow_succ]
                    exact ⟨rfl, by
                      have : 10 ^ i ≤ 10 ^ 9 := Nat.pow_le_pow_right (by omega) (by have := HC.out.2; omega)
                      omega⟩⟩
                  have w1_ : IntKind.u64.wrap ((D : Int) * 10) = (D2 : Int) := by have := HD2.out.2; rw [IntKind.wrap_u64]; omega
                  clear hD2
                  go_wp2
                  clear w1_
                  go_roundg g
                  case measure => omega
                  case rel => exact ⟨i + 1, D2, by omega, rfl, ⟨HD2.out.1⟩, rfl⟩
            · rw [if_neg hc] at h; cases h
        · rw [if_neg s46] at h
          replace h := Option.bind_eq_some_iff.mp h
          obtain ⟨n, hn, h⟩ := h
          have P1 := Aside0.mk hn
          have L1 := Aside0.mk h
          clear hn h
          have s1 : (sg == 47) = false := beq_eq_false_iff_ne.mpr s47
          have s2 : (sg == 46) = false := beq_eq_false_iff_ne.mpr s46
          go_wp2_with (first | (go_at_call 27; (with_reducible refine (ratio_digits.calls wh 19 _ _ D1.out).mono ?_); rintro e w5 ⟨rfl, hb⟩; replace BK := kb BK hb; have hcr0 : w5.cell? ⟨gb, 0, none⟩ = some (.int .i64 0) := (blk_cell BK.out 0).trans rfl; have hcr1 : w5.cell? ⟨gb, 1, none⟩ = some (.int .i64 0) := (blk_cell BK.out 1).trans rfl; have hfr0 := blk_frozen BK.out 0; have hfr1 := blk_frozen BK.out 1; replace HB := wb HB hb; clear hb) | (go_at_call 28; (with_reducible refine (parseU_calls wh n _ P1.out).mono ?_); rintro e w7 ⟨rfl, hb⟩; replace BK := kb BK hb; have hcr0 : w7.cell? ⟨gb, 0, none⟩ = some (.int .i64 0) := (blk_cell BK.out 0).trans rfl; have hcr1 : w7.cell? ⟨gb, 1, none⟩ = some (.int .i64 0) := (blk_cell BK.out 1).trans rfl; have hfr0 := blk_frozen BK.out 0; have hfr1 := blk_frozen BK.out 1; replace HB := wb HB hb; clear hb) | ((with_reducible refine gate_dst (N := 12) rfl ?_); refine box_event ?hg (N := 12) ?hd (cs := #[.bool false, .int .u64 0, .int .u64 0]) (t := 58) ?hr ?_; (case hd => rfl); (case hg => rfl); (case hr => first | (go_simp; done) | (go_simp; rfl)); intro gw hg w9 hbox hb; have BW := Aside0.mk hbox; have NRW := nl BK hg; have GWw := gs HB hg; replace BK := kb BK hb; replace HB := wb HB hb; obtain ⟨hn1, hn2⟩ := n2 NRW; have hcw0 : w9.cell? ⟨gw, 0, none⟩ = some (.bool false) := (blk_cell BW.out 0).trans rfl; have hcw1 : w9.cell? ⟨gw, 1, none⟩ = some (.int .u64 0) := (blk_cell BW.out 1).trans rfl; have hcw2 : w9.cell? ⟨gw, 2, none⟩ = some (.int .u64 0) := (blk_cell BW.out 2).trans rfl; have hfw0 := blk_frozen BW.out 0; have hfw1 := blk_frozen BW.out 1; have hfw2 := blk_frozen BW.out 2; clear hb hbox hg) | (go_at_call 31; (with_reducible refine (ratio_lowest.calls k neg _ _ _ r1 r2 r3 _ L1.out).mono ?_); rintro e w10 ⟨rfl, hb⟩; replace BK := kb BK hb; replace HB := wb HB hb; have hcr0 : w10.cell? ⟨gb, 0, none⟩ = some (.int .i64 0) := (blk_cell BK.out 0).trans rfl; have hcr1 : w10.cell? ⟨gb, 1, none⟩ = some (.int .i64 0) := (blk_cell BK.out 1).trans rfl; have hfr0 := blk_frozen BK.out 0; have hfr1 := blk_frozen BK.out 1; clear hb))
          (refine bodyPost_ret (results_ct rfl _ _ gb 24 #[.int .i64 r1, .int .i64 r2] (0, 0) _ rfl (by refine pe ?_; refine blk_put (cs := #[.int .i64 r1, .int .i64 0]) ?_ 1 _ rfl; refine pe ?_; refine blk_put (cs := #[.int .i64 0, .int .i64 0]) ?_ 0 _ rfl; refine pe ?_; exact BK.out) Tryz.underlying24 rfl (by kernel_rfl)) rfl ?_); exact ⟨by first | rfl | (simp; done), bw HB⟩
end Go.Proofs.YtbapkiclgkddcaaGreatDoor.Given

-- Printed by gp.py (a program of this session's own, over the kit's printer) out of the translation; Lean checks it.
namespace Go.Proofs.YtbapkiclgkddcaaGreatDoor.G
open Go.Proofs.YtbapkiclgkddcaaGreatDoor.Given Go.Proofs.YtbapkiclgkddcaaGreatDoor.Short
open Go.RowKit Go.Proofs.YtbapkiclgkddcaaGreatDoorW.PrintWords Go.Proofs.YtbapkiclgkddcaaGreatDoorW.PrintLast Go.Proofs.YtbapkiclgkddcaaGreatDoorW.PrintMore
attribute [local go_sem] max2_int min2_int max_two min_two max_three min_three max_four min_four   -- for this text's walks alone
set_option linter.unusedVariables false
set_option linter.unusedSimpArgs false

/-! ### r1_Size: function 24 -/
def r1_Size.f (a0 : Int) : Option (Int) := if a0 < 0 then (some (IntKind.u64.wrap ((IntKind.u64.wrap (wrap64 (-(wrap64 (a0 + 1))))) + 1))) else (some (IntKind.u64.wrap (a0)))
set_option maxHeartbeats 8000000 in
set_option maxRecDepth 100000 in
theorem r1_Size.calls (a0 : Int) (r : Int) (w : World) (h : r1_Size.f a0 = some r) :
  Calls Tryz.prog 24 #[.int .i64 a0] w fun e w' => e = .returned (.int .u64 r) ∧ Drawn0 w w' := by
 have H : (if a0 < 0 then (some (IntKind.u64.wrap ((IntKind.u64.wrap (wrap64 (-(wrap64 (a0 + 1))))) + 1))) else (some (IntKind.u64.wrap (a0)))) = some r := h; clear h
 by_cases c2 : a0 < 0
 ·rw [if_pos c2] at H; have c2b0 : decide (a0 < 0) = true := decide_eq_true c2; clear c2; obtain rfl := Option.some.inj H; (go_enter Tryz.func24, Tryz.ntmps24); (go_wp2); (go_ret); exact ⟨by first | rfl | (simp; done) | (simp [*]; done), by repeat (first | exact Drawn0.refl _ | apply Drawn0.step)⟩
 ·rw [if_neg c2] at H; have c2b0 : decide (a0 < 0) = false := decide_eq_false c2; clear c2; obtain rfl := Option.some.inj H; (go_enter Tryz.func24, Tryz.ntmps24); (go_wp2); (go_ret); exact ⟨by first | rfl | (simp; done) | (simp [*]; done), by repeat (first | exact Drawn0.refl _ | apply Drawn0.step)⟩

end Go.Proofs.YtbapkiclgkddcaaGreatDoor.G

-- Printed by gp.py (a program of this session's own, over the kit's printer) out of the translation; Lean checks it.
namespace Go.Proofs.YtbapkiclgkddcaaGreatDoor.G
open Go.Proofs.YtbapkiclgkddcaaGreatDoor.Given Go.Proofs.YtbapkiclgkddcaaGreatDoor.Short
open Go.RowKit Go.Proofs.YtbapkiclgkddcaaGreatDoorW.PrintWords Go.Proofs.YtbapkiclgkddcaaGreatDoorW.PrintLast Go.Proofs.YtbapkiclgkddcaaGreatDoorW.PrintMore
attribute [local go_sem] max2_int min2_int max_two min_two max_three min_three max_four min_four   -- for this text's walks alone
set_option linter.unusedVariables false
set_option linter.unusedSimpArgs false

/-! ### r1_Twice: function 68 -/
def r1_Twice.f (a0_0 : Int) (a0_1 : Int) : Option (Int × Int) := some (Go.bits .or .u64 (IntKind.u64.wrap (a0_0 * 2)) (a0_1 / 9223372036854775808), IntKind.u64.wrap (a0_1 * 2))
set_option maxHeartbeats 8000000 in
set_option maxRecDepth 100000 in
theorem r1_Twice.calls (a0_0 : Int) (a0_1 : Int) (r1 : Int) (r2 : Int) (w : World) (h : r1_Twice.f a0_0 a0_1 = some (r1, r2)) :
  Calls Tryz.prog 68 #[.agg #[.int .u64 a0_0, .int .u64 a0_1]] w fun e w' => e = .returned (.agg #[.int .u64 r1, .int .u64 r2]) ∧ Below w.heap.size w w' := by
 have hu48 := Tryz.underlying48; have HB := Aside0.mk (Below.refl w.heap.size w); have H : (some (Go.bits .or .u64 (IntKind.u64.wrap (a0_0 * 2)) (a0_1 / 9223372036854775808), IntKind.u64.wrap (a0_1 * 2))) = some (r1, r2) := h; clear h; simp only [Option.some.injEq, Prod.mk.injEq] at H; obtain ⟨rfl, rfl⟩ := H; (go_enter Tryz.func68, Tryz.ntmps68); (go_wp2_with (first | ((with_reducible refine gate_dst (N := 1) rfl ?_); refine bx (N := 1) (cs := #[.int .u64 a0_0, .int .u64 a0_1]) (t := 48) ?_; intro gb112 hg w2 hbox hb; have BK112 := Aside0.mk (hbox); have GW112 := gs HB hg; have GE112 := gs HB hg; replace HB := wb HB hb; clear hb hbox hg) | ((with_reducible refine gate_dst (N := 2) rfl ?_); refine bx (N := 2) (cs := #[.int .u64 0, .int .u64 0]) (t := 48) ?_; intro gb113 hg w3 hbox hb; have BK113 := Aside0.mk (hbox); have GW113 := gs HB hg; have GE113 := gs HB hg; have NB112_113 := nl BK112 hg; have NB113_112 := nr BK112 hg; replace BK112 := kb BK112 hb; replace HB := wb HB hb; clear hb hbox hg; obtain ⟨hnb4, hnc4⟩ := n2 NB112_113; have hcz5_0 : w3.cell? ⟨gb112, 0, none⟩ = some (.int .u64 a0_0) := bc BK112 0; have hcz5_1 : w3.cell? ⟨gb112, 1, none⟩ = some (.int .u64 a0_1) := bc BK112 1; have hfz5_0 := blk_frozen BK112.out 0; have hfz5_1 := blk_frozen BK112.out 1; have hcz6_0 : w3.cell? ⟨gb113, 0, none⟩ = some (.int .u64 0) := bc BK113 0; have hcz6_1 : w3.cell? ⟨gb113, 1, none⟩ = some (.int .u64 0) := bc BK113 1; have hfz6_0 := blk_frozen BK113.out 0; have hfz6_1 := blk_frozen BK113.out 1))); refine bodyPost_ret (results_cell_row rfl _ _ gb113 48 #[.int .u64 (Go.bits .or .u64 (IntKind.u64.wrap (a0_0 * 2)) (a0_1 / 9223372036854775808)), .int .u64 (IntKind.u64.wrap (a0_1 * 2))] (0, 0) _ rfl (by refine pe ?_; refine blk_put (cs := #[.int .u64 (Go.bits .or .u64 (IntKind.u64.wrap (a0_0 * 2)) (a0_1 / 9223372036854775808)), .int .u64 0]) ?_ 1 _ rfl; refine pe ?_; refine blk_put (cs := #[.int .u64 0, .int .u64 0]) ?_ 0 _ rfl; refine pe ?_; exact BK113.out) Tryz.underlying48 rfl (by kernel_rfl)) rfl ?_; exact ⟨by first | rfl | (simp [errW_none, errW_some] <;> rfl) | (simp [*, errW_none, errW_some] <;> rfl), bw HB⟩

end Go.Proofs.YtbapkiclgkddcaaGreatDoor.G

-- Printed by gp.py (a program of this session's own, over the kit's printer) out of the translation; Lean checks it.
namespace Go.Proofs.YtbapkiclgkddcaaGreatDoor.G
open Go.Proofs.YtbapkiclgkddcaaGreatDoor.Given Go.Proofs.YtbapkiclgkddcaaGreatDoor.Short
open Go.RowKit Go.Proofs.YtbapkiclgkddcaaGreatDoorW.PrintWords Go.Proofs.YtbapkiclgkddcaaGreatDoorW.PrintLast Go.Proofs.YtbapkiclgkddcaaGreatDoorW.PrintMore
attribute [local go_sem] max2_int min2_int max_two min_two max_three min_three max_four min_four   -- for this text's walks alone
set_option linter.unusedVariables false
set_option linter.unusedSimpArgs false

attribute [local go_sem high] eqA48
/-! ### r1_Order: function 69 -/
def r1_Order.j0 : Nat → Bool → Int → Int → Int → Int → Option (Int)
 | 0, _, _, _, _, _ => none
 | k + 1, x23, x115000, x115001, x116000, x116001 => if x23 = true then (some (-1)) else (if (x115000 == x116000 && (x115001 == x116001)) = true then (some 0) else (some 1))
def r1_Order.f (k : Nat) (a0_0 : Int) (a0_1 : Int) (a1_0 : Int) (a1_1 : Int) : Option (Int) := if a0_0 < a1_0 then (r1_Order.j0 k true a0_0 a0_1 a1_0 a1_1) else (if a0_0 = a1_0 then (r1_Order.j0 k (decide (a0_1 < a1_1)) a0_0 a0_1 a1_0 a1_1) else (r1_Order.j0 k false a0_0 a0_1 a1_0 a1_1))
theorem r1_Order.mono_l : ∀ k, (∀ y0 y1 y2 y3 y4, LeO (r1_Order.j0 k y0 y1 y2 y3 y4) (r1_Order.j0 (k + 1) y0 y1 y2 y3 y4))
 | 0 => fun _ _ _ _ _ r h => by simp [r1_Order.j0] at h
 | k + 1 => by
  have ih0 := r1_Order.mono_l k
  ·intro y0 y1 y2 y3 y4; unfold r1_Order.j0
   repeat' first
   | (with_reducible exact ih0 _ _ _ _ _)
   | (with_reducible exact LeO.refl _)
   | (with_reducible exact LeO.none _)
   | (with_reducible refine LeO.ite ?_ ?_)
   | (with_reducible refine LeO.bind ?_ (fun _ => ?_))
   | exact ih0 _ _ _ _ _
   | exact LeO.none _
   | refine LeO.ite ?_ ?_
   | refine LeO.bind ?_ (fun _ => ?_)
theorem r1_Order.mono : ∀ a0 a1 a2 a3 k, LeO (r1_Order.f k a0 a1 a2 a3) (r1_Order.f (k + 1) a0 a1 a2 a3) := by
 intro a0 a1 a2 a3 k; have ih0 := r1_Order.mono_l k; unfold r1_Order.f
 repeat' first
   | (with_reducible exact ih0 _ _ _ _ _)
   | (with_reducible exact LeO.refl _)
   | (with_reducible exact LeO.none _)
   | (with_reducible refine LeO.ite ?_ ?_)
   | (with_reducible refine LeO.bind ?_ (fun _ => ?_))
   | exact ih0 _ _ _ _ _
   | exact LeO.none _
   | refine LeO.ite ?_ ?_
   | refine LeO.bind ?_ (fun _ => ?_)
set_option maxHeartbeats 8000000 in
set_option maxRecDepth 100000 in
theorem r1_Order.calls (k : Nat) (a0_0 : Int) (a0_1 : Int) (a1_0 : Int) (a1_1 : Int) (r : Int) (w : World) (h : r1_Order.f k a0_0 a0_1 a1_0 a1_1 = some r) :
  Calls Tryz.prog 69 #[.agg #[.int .u64 a0_0, .int .u64 a0_1], .agg #[.int .u64 a1_0, .int .u64 a1_1]] w fun e w' => e = .returned (.int .i64 r) ∧ Below w.heap.size w w' := by
 have hu48 := Tryz.underlying48; have HB := Aside0.mk (Below.refl w.heap.size w); have H : (if a0_0 < a1_0 then (r1_Order.j0 k true a0_0 a0_1 a1_0 a1_1) else (if a0_0 = a1_0 then (r1_Order.j0 k (decide (a0_1 < a1_1)) a0_0 a0_1 a1_0 a1_1) else (r1_Order.j0 k false a0_0 a0_1 a1_0 a1_1))) = some r := h; clear h; have HC3 := Aside0.mk H; clear H; go_enter Tryz.func69, Tryz.ntmps69
 go_upto_region 1 with (first | ((with_reducible refine gate_dst (N := 2) rfl ?_); refine bx (N := 2) (cs := #[.int .u64 a0_0, .int .u64 a0_1]) (t := 48) ?_; intro gb114 hg w4 hbox hb; have BK114 := Aside0.mk (hbox); have GW114 := gs HB hg; have GE114 := gs HB hg; replace HB := wb HB hb; clear hb hbox hg) | ((with_reducible refine gate_dst (N := 3) rfl ?_); refine bx (N := 3) (cs := #[.int .u64 a1_0, .int .u64 a1_1]) (t := 48) ?_; intro gb115 hg w5 hbox hb; have BK115 := Aside0.mk (hbox); have GW115 := gs HB hg; have GE115 := gs HB hg; have NB114_115 := nl BK114 hg; have NB115_114 := nr BK114 hg; replace BK114 := kb BK114 hb; replace HB := wb HB hb; clear hb hbox hg))
 (try simp only [Act.put, List.setIfInBounds_toArray, List.set_cons_zero, List.set_cons_succ])
 go_cut [23] (fun v23 wc => ∃ (kq : Nat) (x23_2 : Bool), v23 = .bool x23_2 ∧ Aside0 (r1_Order.j0 kq x23_2 a0_0 a0_1 a1_0 a1_1 = some r) ∧ Aside0 (kq ≤ k) ∧ Aside0 (wc.heap[gb114]? = some (.cells #[.int .u64 a0_0, .int .u64 a0_1] 48 (0, 0))) ∧ Aside0 (wc.heap[gb115]? = some (.cells #[.int .u64 a1_0, .int .u64 a1_1] 48 (0, 0))) ∧ Aside0 (Below w.heap.size w wc))
 case first =>
  have H := HC3.out; clear HC3
  by_cases c6 : a0_0 < a1_0
  ·rw [if_pos c6] at H; have c6b0 : decide (a0_0 < a1_0) = true := decide_eq_true c6; clear c6
   (first | rw [c6b0] | (simp only [i64_w, i32_w]; rw [c6b0]) | skip)
   have H' := Aside0.mk H; clear H; obtain ⟨hnb7, hnc7⟩ := n2 NB114_115; have hcz8_0 : w5.cell? ⟨gb114, 0, none⟩ = some (.int .u64 a0_0) := bc BK114 0; have hcz8_1 : w5.cell? ⟨gb114, 1, none⟩ = some (.int .u64 a0_1) := bc BK114 1; have hfz8_0 := blk_frozen BK114.out 0; have hfz8_1 := blk_frozen BK114.out 1; have hcz9_0 : w5.cell? ⟨gb115, 0, none⟩ = some (.int .u64 a1_0) := bc BK115 0; have hcz9_1 : w5.cell? ⟨gb115, 1, none⟩ = some (.int .u64 a1_1) := bc BK115 1; have hfz9_0 := blk_frozen BK115.out 0; have hfz9_1 := blk_frozen BK115.out 1; go_wp2
   go_meet
   case rel => exact ⟨_, (true), (by first | rfl | (simp; done) | (simp [*]; done)), H', ⟨by first | omega | exact Nat.le_refl _⟩, ⟨bq BK114⟩, ⟨bq BK115⟩, ⟨bw HB⟩⟩
  ·rw [if_neg c6] at H; have c6b0 : decide (a0_0 < a1_0) = false := decide_eq_false c6; clear c6
   (first | rw [c6b0] | (simp only [i64_w, i32_w]; rw [c6b0]) | skip)
   by_cases c10 : a0_0 = a1_0
   ·rw [if_pos c10] at H; have c10b0 : (a0_0 == a1_0) = true := beq_iff_eq.mpr c10; have c10b1 : (a0_0 != a1_0) = false := bne_eq_false_iff_eq.mpr c10; clear c10; have H' := Aside0.mk H; clear H; obtain ⟨hnb11, hnc11⟩ := n2 NB114_115; have hcz12_0 : w5.cell? ⟨gb114, 0, none⟩ = some (.int .u64 a0_0) := bc BK114 0; have hcz12_1 : w5.cell? ⟨gb114, 1, none⟩ = some (.int .u64 a0_1) := bc BK114 1; have hfz12_0 := blk_frozen BK114.out 0; have hfz12_1 := blk_frozen BK114.out 1; have hcz13_0 : w5.cell? ⟨gb115, 0, none⟩ = some (.int .u64 a1_0) := bc BK115 0; have hcz13_1 : w5.cell? ⟨gb115, 1, none⟩ = some (.int .u64 a1_1) := bc BK115 1; have hfz13_0 := blk_frozen BK115.out 0; have hfz13_1 := blk_frozen BK115.out 1; go_wp2
    go_meet
    case rel => exact ⟨_, (decide (a0_1 < a1_1)), (by first | rfl | (simp; done) | (simp [*]; done)), H', ⟨by first | omega | exact Nat.le_refl _⟩, ⟨bq BK114⟩, ⟨bq BK115⟩, ⟨bw HB⟩⟩
   ·rw [if_neg c10] at H; have c10b0 : (a0_0 == a1_0) = false := beq_eq_false_iff_ne.mpr c10; have c10b1 : (a0_0 != a1_0) = true := bne_iff_ne.mpr c10; have H' := Aside0.mk H; clear H; obtain ⟨hnb14, hnc14⟩ := n2 NB114_115; have hcz15_0 : w5.cell? ⟨gb114, 0, none⟩ = some (.int .u64 a0_0) := bc BK114 0; have hcz15_1 : w5.cell? ⟨gb114, 1, none⟩ = some (.int .u64 a0_1) := bc BK114 1; have hfz15_0 := blk_frozen BK114.out 0; have hfz15_1 := blk_frozen BK114.out 1; have hcz16_0 : w5.cell? ⟨gb115, 0, none⟩ = some (.int .u64 a1_0) := bc BK115 0; have hcz16_1 : w5.cell? ⟨gb115, 1, none⟩ = some (.int .u64 a1_1) := bc BK115 1; have hfz16_0 := blk_frozen BK115.out 0; have hfz16_1 := blk_frozen BK115.out 1; go_wp2
    go_meet
    case rel => exact ⟨_, (false), (by first | rfl | (simp; done) | (simp [*]; done)), H', ⟨by first | omega | exact Nat.le_refl _⟩, ⟨bq BK114⟩, ⟨bq BK115⟩, ⟨bw HB⟩⟩
 case rest =>
  clear HC3; (try clear c1); (try clear p2); (try clear c6); (try clear c6b0); (try clear c7); (try clear c10); (try clear c10b0); (try clear c10b1); (try clear c11); (try clear c14); (try clear hcz12_0); (try clear hcz12_1); (try clear hcz13_0); (try clear hcz13_1); (try clear hcz15_0); (try clear hcz15_1); (try clear hcz16_0); (try clear hcz16_1); (try clear hcz8_0); (try clear hcz8_1); (try clear hcz9_0); (try clear hcz9_1); (try clear hfz12_0); (try clear hfz12_1); (try clear hfz13_0); (try clear hfz13_1); (try clear hfz15_0); (try clear hfz15_1); (try clear hfz16_0); (try clear hfz16_1); (try clear hfz8_0); (try clear hfz8_1); (try clear hfz9_0); (try clear hfz9_1); obtain ⟨kq, x23_2, rfl, HA, HJ2, BK114, BK115, HB⟩ := hcut
  cases kq with
  | zero => exact absurd HA.out (by simp [r1_Order.j0])
  | succ kj2 =>
   have H := HA.out; clear HA; simp only [r1_Order.j0] at H
   by_cases c17 : x23_2 = true
   ·subst c17; (have H1 : (some (-1)) = some r := by rw [if_pos rfl] at H; exact H); clear H; have H := H1; clear H1; obtain rfl := Option.some.inj H; (go_wp2); (go_ret); exact ⟨by first | rfl | (simp [errW_none, errW_some] <;> rfl) | (simp [*, errW_none, errW_some] <;> rfl), bw HB⟩
   ·replace c17 := Bool.eq_false_iff.mpr c17; subst c17; (have H1 : (if (a0_0 == a1_0 && (a0_1 == a1_1)) = true then (some 0) else (some 1)) = some r := by rw [if_neg (show ¬ (false = true) by decide)] at H; exact H); clear H; have H := H1; clear H1
    by_cases c18 : (a0_0 == a1_0 && (a0_1 == a1_1)) = true
    ·rw [if_pos c18] at H; have c18b0 : (a0_0 == a1_0 && (a0_1 == a1_1)) = true := c18; (try (have c18b1 : decide (a0_0 = a1_0 && (a0_1 == a1_1)) = true := by simpa using c18)); (try (have c18b2 : (a0_0 == a1_0 && (a0_1 == a1_1)) = true := by simpa using c18)); clear c18; obtain rfl := Option.some.inj H; obtain ⟨hnb19, hnc19⟩ := n2 NB114_115; have hcz20_0 : wc.cell? ⟨gb114, 0, none⟩ = some (.int .u64 a0_0) := bc BK114 0; have hcz20_1 : wc.cell? ⟨gb114, 1, none⟩ = some (.int .u64 a0_1) := bc BK114 1; have hfz20_0 := blk_frozen BK114.out 0; have hfz20_1 := blk_frozen BK114.out 1; have hcz21_0 : wc.cell? ⟨gb115, 0, none⟩ = some (.int .u64 a1_0) := bc BK115 0; have hcz21_1 : wc.cell? ⟨gb115, 1, none⟩ = some (.int .u64 a1_1) := bc BK115 1; have hfz21_0 := blk_frozen BK115.out 0; have hfz21_1 := blk_frozen BK115.out 1; (go_wp2); (go_ret); exact ⟨by first | rfl | (simp [errW_none, errW_some] <;> rfl) | (simp [*, errW_none, errW_some] <;> rfl), bw HB⟩
    ·rw [if_neg c18] at H; (have c18b0 : (a0_0 == a1_0 && (a0_1 == a1_1)) = false := by simpa using c18); (try (have c18b1 : decide (a0_0 = a1_0 && (a0_1 == a1_1)) = false := by simpa using c18)); (try (have c18b2 : (a0_0 == a1_0 && (a0_1 == a1_1)) = false := by simpa using c18)); (try (have c18b3 : ¬ (a0_0 = a1_0 && (a0_1 == a1_1)) := by simpa using c18)); clear c18; obtain rfl := Option.some.inj H; obtain ⟨hnb22, hnc22⟩ := n2 NB114_115; have hcz23_0 : wc.cell? ⟨gb114, 0, none⟩ = some (.int .u64 a0_0) := bc BK114 0; have hcz23_1 : wc.cell? ⟨gb114, 1, none⟩ = some (.int .u64 a0_1) := bc BK114 1; have hfz23_0 := blk_frozen BK114.out 0; have hfz23_1 := blk_frozen BK114.out 1; have hcz24_0 : wc.cell? ⟨gb115, 0, none⟩ = some (.int .u64 a1_0) := bc BK115 0; have hcz24_1 : wc.cell? ⟨gb115, 1, none⟩ = some (.int .u64 a1_1) := bc BK115 1; have hfz24_0 := blk_frozen BK115.out 0; have hfz24_1 := blk_frozen BK115.out 1; (go_wp2); (go_ret); exact ⟨by first | rfl | (simp [errW_none, errW_some] <;> rfl) | (simp [*, errW_none, errW_some] <;> rfl), bw HB⟩

end Go.Proofs.YtbapkiclgkddcaaGreatDoor.G

-- Printed by gp.py (a program of this session's own, over the kit's printer) out of the translation; Lean checks it.
namespace Go.Proofs.YtbapkiclgkddcaaGreatDoor.G
open Go.Proofs.YtbapkiclgkddcaaGreatDoor.Given Go.Proofs.YtbapkiclgkddcaaGreatDoor.Short
open Go.RowKit Go.Proofs.YtbapkiclgkddcaaGreatDoorW.PrintWords Go.Proofs.YtbapkiclgkddcaaGreatDoorW.PrintLast Go.Proofs.YtbapkiclgkddcaaGreatDoorW.PrintMore
attribute [local go_sem] max2_int min2_int max_two min_two max_three min_three max_four min_four   -- for this text's walks alone
set_option linter.unusedVariables false
set_option linter.unusedSimpArgs false

/-! ### r1_Minus: function 70 -/
def r1_Minus.f (a0_0 : Int) (a0_1 : Int) (a1_0 : Int) (a1_1 : Int) : Option (Int × Int) := (bits_Sub64.f a0_1 a1_1 0).bind fun bt119 => ((bits_Sub64.f a0_0 a1_0 bt119.2).bind fun bt121 => (some (bt121.1, bt119.1)))
set_option maxHeartbeats 8000000 in
set_option maxRecDepth 100000 in
theorem r1_Minus.calls (a0_0 : Int) (a0_1 : Int) (a1_0 : Int) (a1_1 : Int) (r1 : Int) (r2 : Int) (w : World) (h : r1_Minus.f a0_0 a0_1 a1_0 a1_1 = some (r1, r2)) :
  Calls Tryz.prog 70 #[.agg #[.int .u64 a0_0, .int .u64 a0_1], .agg #[.int .u64 a1_0, .int .u64 a1_1]] w fun e w' => e = .returned (.agg #[.int .u64 r1, .int .u64 r2]) ∧ Below w.heap.size w w' := by
 have hu48 := Tryz.underlying48; have HB := Aside0.mk (Below.refl w.heap.size w); have H : ((bits_Sub64.f a0_1 a1_1 0).bind fun bt119 => ((bits_Sub64.f a0_0 a1_0 bt119.2).bind fun bt121 => (some (bt121.1, bt119.1)))) = some (r1, r2) := h; clear h; replace H := Option.bind_eq_some_iff.mp H; obtain ⟨⟨t119, t120⟩, A30, H⟩ := H; (try dsimp only at H); have A3 := Aside0.mk A30; clear A30; replace H := Option.bind_eq_some_iff.mp H; obtain ⟨⟨t121, t122⟩, A40, H⟩ := H; (try dsimp only at H); have A4 := Aside0.mk A40; clear A40; simp only [Option.some.injEq, Prod.mk.injEq] at H; obtain ⟨rfl, rfl⟩ := H; (go_enter Tryz.func70, Tryz.ntmps70); (go_wp2_with (first | ((with_reducible refine gate_dst (N := 2) rfl ?_); refine bx (N := 2) (cs := #[.int .u64 a0_0, .int .u64 a0_1]) (t := 48) ?_; intro gb116 hg w5 hbox hb; have BK116 := Aside0.mk (hbox); have GW116 := gs HB hg; have GE116 := gs HB hg; replace HB := wb HB hb; clear hb hbox hg) | ((with_reducible refine gate_dst (N := 3) rfl ?_); refine bx (N := 3) (cs := #[.int .u64 a1_0, .int .u64 a1_1]) (t := 48) ?_; intro gb117 hg w6 hbox hb; have BK117 := Aside0.mk (hbox); have GW117 := gs HB hg; have GE117 := gs HB hg; have NB116_117 := nl BK116 hg; have NB117_116 := nr BK116 hg; replace BK116 := kb BK116 hb; replace HB := wb HB hb; clear hb hbox hg) | ((with_reducible refine gate_dst (N := 4) rfl ?_); refine bx (N := 4) (cs := #[.int .u64 0, .int .u64 0]) (t := 48) ?_; intro gb118 hg w7 hbox hb; have BK118 := Aside0.mk (hbox); have GW118 := gs HB hg; have GE118 := gs HB hg; have NB116_118 := nl BK116 hg; have NB118_116 := nr BK116 hg; have NB117_118 := nl BK117 hg; have NB118_117 := nr BK117 hg; replace BK116 := kb BK116 hb; replace BK117 := kb BK117 hb; replace HB := wb HB hb; clear hb hbox hg; obtain ⟨hnb8, hnc8⟩ := n2 NB116_117; obtain ⟨hnb9, hnc9⟩ := n2 NB116_118; have hcz10_0 : w7.cell? ⟨gb116, 0, none⟩ = some (.int .u64 a0_0) := bc BK116 0; have hcz10_1 : w7.cell? ⟨gb116, 1, none⟩ = some (.int .u64 a0_1) := bc BK116 1; have hfz10_0 := blk_frozen BK116.out 0; have hfz10_1 := blk_frozen BK116.out 1; obtain ⟨hnb11, hnc11⟩ := n2 NB117_118; have hcz12_0 : w7.cell? ⟨gb117, 0, none⟩ = some (.int .u64 a1_0) := bc BK117 0; have hcz12_1 : w7.cell? ⟨gb117, 1, none⟩ = some (.int .u64 a1_1) := bc BK117 1; have hfz12_0 := blk_frozen BK117.out 0; have hfz12_1 := blk_frozen BK117.out 1) | ((with_reducible refine gate_callee (f := 57) rfl ?_); refine gx (some 14) Tryz.func57 #[.int .u64 a0_1, .int .u64 a1_1, .int .u64 0] ?_; (with_reducible refine (bits_Sub64.calls a0_1 a1_1 0 t119 t120 _ A3.out).mono ?_); rintro e w13 ⟨rfl, hb⟩; refine ⟨_, rfl, ?_⟩; replace BK116 := kb BK116 hb; replace BK117 := kb BK117 hb; replace BK118 := kb BK118 hb; replace HB := wb HB hb; (try clear hb); (try clear hb2); (try clear hk); (try clear hi); have hcz14_0 : w13.cell? ⟨gb116, 0, none⟩ = some (.int .u64 a0_0) := bc BK116 0; have hcz14_1 : w13.cell? ⟨gb116, 1, none⟩ = some (.int .u64 a0_1) := bc BK116 1; have hfz14_0 := blk_frozen BK116.out 0; have hfz14_1 := blk_frozen BK116.out 1; have hcz15_0 : w13.cell? ⟨gb117, 0, none⟩ = some (.int .u64 a1_0) := bc BK117 0; have hcz15_1 : w13.cell? ⟨gb117, 1, none⟩ = some (.int .u64 a1_1) := bc BK117 1; have hfz15_0 := blk_frozen BK117.out 0; have hfz15_1 := blk_frozen BK117.out 1) | ((with_reducible refine gate_callee (f := 57) rfl ?_); refine gx (some 23) Tryz.func57 #[.int .u64 a0_0, .int .u64 a1_0, .int .u64 t120] ?_; (with_reducible refine (bits_Sub64.calls a0_0 a1_0 t120 t121 t122 _ A4.out).mono ?_); rintro e w16 ⟨rfl, hb⟩; refine ⟨_, rfl, ?_⟩; replace BK116 := kb BK116 hb; replace BK117 := kb BK117 hb; replace BK118 := kb BK118 hb; replace HB := wb HB hb; (try clear hb); (try clear hb2); (try clear hk); (try clear hi); have hcz17_0 : w16.cell? ⟨gb118, 0, none⟩ = some (.int .u64 0) := bc BK118 0; have hcz17_1 : w16.cell? ⟨gb118, 1, none⟩ = some (.int .u64 0) := bc BK118 1; have hfz17_0 := blk_frozen BK118.out 0; have hfz17_1 := blk_frozen BK118.out 1))); refine bodyPost_ret (results_cell_row rfl _ _ gb118 48 #[.int .u64 t121, .int .u64 t119] (0, 0) _ rfl (by refine pe ?_; refine blk_put (cs := #[.int .u64 t121, .int .u64 0]) ?_ 1 _ rfl; refine pe ?_; refine blk_put (cs := #[.int .u64 0, .int .u64 0]) ?_ 0 _ rfl; refine pe ?_; exact BK118.out) Tryz.underlying48 rfl (by kernel_rfl)) rfl ?_; exact ⟨by first | rfl | (simp [errW_none, errW_some] <;> rfl) | (simp [*, errW_none, errW_some] <;> rfl), bw HB⟩

end Go.Proofs.YtbapkiclgkddcaaGreatDoor.G
