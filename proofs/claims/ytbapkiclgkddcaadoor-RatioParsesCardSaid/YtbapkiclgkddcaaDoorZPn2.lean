/- Texts of this claim laid together: Gf69, Gf70, Gf40, Prs, AppB, AppC, Gf41, Gf20. -/
import Derived.Test.YtbapkiclgkddcaaDoorShortC
import Derived.Test.YtbapkiclgkddcaaDoorG0
import Derived.Test.YtbapkiclgkddcaaDoorZPn1
import Derived.Test.YtbapkiclgkddcaaDoorGivenS
import Derived.Test.YtbapkiclgkddcaaDoorShort
import Derived.Test.YtbapkiclgkddcaaDoorGiven
import Derived.Test.YtbapkiclgkddcaaDoorApp
import Derived.Laws.RangeString
import Derived.Deep.LoopGhost
import Derived.Lib.Strings
import Derived.Below
import Derived.Deep.Draws
import Derived.Deep.AppendLies
import Derived.Maps.AppendAt
import Derived.OwnWalk
import Derived.Laws.BytesArg
import Derived.Laws.MakeOwn
import Derived.Laws.OwnMore
import Derived.Deep.OwnRows
import Derived.Tactics
import Derived.Laws.Slices
import Derived.KernelRfl
import Derived.RowKit3
import Derived.WideLaws
import Derived.Deep.DeepCutAuto
import Derived.Deep.CutBlock
import Derived.Deep.RegionHeld3
import Derived.Laws.Rows
import Derived.ArgAppend
import Derived.OrdersHeld
import Derived.RowKit
import Derived.Outline
-- Printed by gp.py (a program of this session's own, over the kit's printer) out of the translation; Lean checks it.
namespace Go.Proofs.YtbapkiclgkddcaaDoor.G
open Go.Proofs.YtbapkiclgkddcaaDoor.Given Go.Proofs.YtbapkiclgkddcaaDoor.Short
open Go.RowKit Go.Proofs.YtbapkiclgkddcaaDoorW.PrintWords Go.Proofs.YtbapkiclgkddcaaDoorW.PrintLast Go.Proofs.YtbapkiclgkddcaaDoorW.PrintMore
attribute [local go_sem] max2_int min2_int max_two min_two max_three min_three max_four min_four   -- for this text's walks alone
set_option linter.unusedVariables false
set_option linter.unusedSimpArgs false

/-! ### bits_Rem64: function 69 -/
def bits_Rem64.f (k : Nat) (a0 : Int) (a1 : Int) (a2 : Int) : Option (Int) := if a2 = 0 then (none) else ((bits_Div64.f k (Int.tmod a0 a2) a1 a2).bind fun bt103 => (some bt103.2))
theorem bits_Rem64.mono : ∀ a0 a1 a2 k, LeO (bits_Rem64.f k a0 a1 a2) (bits_Rem64.f (k + 1) a0 a1 a2) := by
 intro a0 a1 a2 k; unfold bits_Rem64.f
 repeat' first
   | (with_reducible exact bits_Div64.mono _ _ _ _)
   | (with_reducible exact LeO.refl _)
   | (with_reducible exact LeO.none _)
   | (with_reducible refine LeO.ite ?_ ?_)
   | (with_reducible refine LeO.bind ?_ (fun _ => ?_))
   | exact bits_Div64.mono _ _ _ _
   | exact LeO.none _
   | refine LeO.ite ?_ ?_
   | refine LeO.bind ?_ (fun _ => ?_)
set_option maxHeartbeats 8000000 in
set_option maxRecDepth 100000 in
theorem bits_Rem64.calls (k : Nat) (a0 : Int) (a1 : Int) (a2 : Int) (r : Int) (w : World) (h : bits_Rem64.f k a0 a1 a2 = some r) :
  Calls Tryd.prog 69 #[.int .u64 a0, .int .u64 a1, .int .u64 a2] w fun e w' => e = .returned (.int .u64 r) ∧ Drawn0 w w' := by
 have H : (if a2 = 0 then (none) else ((bits_Div64.f k (Int.tmod a0 a2) a1 a2).bind fun bt103 => (some bt103.2))) = some r := h; clear h
 by_cases c4 : a2 = 0
 ·rw [if_pos c4] at H; exact absurd H (by simp)
 ·rw [if_neg c4] at H; have c4b0 : (a2 == 0) = false := beq_eq_false_iff_ne.mpr c4; have c4b1 : (a2 != 0) = true := bne_iff_ne.mpr c4; replace H := Option.bind_eq_some_iff.mp H; obtain ⟨⟨t103, t104⟩, A50, H⟩ := H; (try dsimp only at H); have A5 := Aside0.mk A50; clear A50; obtain rfl := Option.some.inj H; (go_enter Tryd.func69, Tryd.ntmps69); (go_wp2_with (first | ((with_reducible refine gate_callee (f := 46) rfl ?_); refine gl (some 15) Tryd.func46 #[.int .u64 (Int.tmod a0 a2), .int .u64 a1, .int .u64 a2] ?_; (with_reducible refine (bits_Div64.calls k (Int.tmod a0 a2) a1 a2 t103 t104 _ A5.out).mono ?_); rintro e w' ⟨rfl, ⟨nd, rfl⟩⟩; refine ⟨_, rfl, ?_⟩))); (go_ret); exact ⟨by first | rfl | (simp; done) | (simp [*]; done), by repeat (first | exact Drawn0.refl _ | apply Drawn0.step)⟩

end Go.Proofs.YtbapkiclgkddcaaDoor.G

-- Printed by gp.py (a program of this session's own, over the kit's printer) out of the translation; Lean checks it.
namespace Go.Proofs.YtbapkiclgkddcaaDoor.G
open Go.Proofs.YtbapkiclgkddcaaDoor.Given Go.Proofs.YtbapkiclgkddcaaDoor.Short
open Go.RowKit Go.Proofs.YtbapkiclgkddcaaDoorW.PrintWords Go.Proofs.YtbapkiclgkddcaaDoorW.PrintLast Go.Proofs.YtbapkiclgkddcaaDoorW.PrintMore
attribute [local go_sem] max2_int min2_int max_two min_two max_three min_three max_four min_four   -- for this text's walks alone
set_option linter.unusedVariables false
set_option linter.unusedSimpArgs false

/-! ### ratio_wide_over: function 70 -/
def ratio_wide_over.f (k : Nat) (a0_0 : Bool) (a0_1 : Int) (a0_2 : Int) (a1 : Int) : Option (Bool × Int × Int) := if a1 = 0 then (none) else ((bits_Div64.f k (Int.tmod a0_1 a1) a0_2 a1).bind fun bt107 => (some (a0_0, IntKind.u64.wrap (Int.tdiv a0_1 a1), bt107.1)))
theorem ratio_wide_over.mono : ∀ a0 a1 a2 a3 k, LeO (ratio_wide_over.f k a0 a1 a2 a3) (ratio_wide_over.f (k + 1) a0 a1 a2 a3) := by
 intro a0 a1 a2 a3 k; unfold ratio_wide_over.f
 repeat' first
   | (with_reducible exact bits_Div64.mono _ _ _ _)
   | (with_reducible exact LeO.refl _)
   | (with_reducible exact LeO.none _)
   | (with_reducible refine LeO.ite ?_ ?_)
   | (with_reducible refine LeO.bind ?_ (fun _ => ?_))
   | exact bits_Div64.mono _ _ _ _
   | exact LeO.none _
   | refine LeO.ite ?_ ?_
   | refine LeO.bind ?_ (fun _ => ?_)
def ratio_wide_over.T1 : Bool × List (List Nat × List Nat) := (true, [([], []), ([0], [0]), ([], []), ([1, 2], [1, 2]), ([], []), ([4], [4]), ([], []), ([3, 5, 6], [3, 5, 6]), ([7], [7]), ([8], [8]), ([8], [8]), ([9, 7, 0, 1, 2, 3, 4, 5, 6, 7, 8, 9], [9]), ([10, 11, 0, 1, 2, 3, 4, 5, 6, 7, 8, 9, 10, 11], [10])])
def ratio_wide_over.B1 : List Nat := [0, 1, 0, 7, 0, 16, 0, 127, 255, 511, 511, 1023, 4095]
theorem ratio_wide_over.tab1 : rtab .any (opsOf Tryd.f70 1) = ratio_wide_over.T1 := by kernel_rfl
theorem ratio_wide_over.bits1 : waitsOk ratio_wide_over.T1.2 ratio_wide_over.B1 = true := by kernel_rfl
def ratio_wide_over.T2 : Bool × List (List Nat × List Nat) := (true, [([], []), ([0], [0]), ([], []), ([2], [2]), ([], []), ([3, 4], [3, 4]), ([], []), ([1, 5, 6], [1, 5, 6]), ([7, 0, 1, 2, 3, 4, 5, 6, 7], [7])])
def ratio_wide_over.B2 : List Nat := [0, 1, 0, 4, 0, 28, 0, 127, 255]
theorem ratio_wide_over.tab2 : rtab .any (opsOf Tryd.f70 2) = ratio_wide_over.T2 := by kernel_rfl
theorem ratio_wide_over.bits2 : waitsOk ratio_wide_over.T2.2 ratio_wide_over.B2 = true := by kernel_rfl
set_option maxHeartbeats 8000000 in
set_option maxRecDepth 100000 in
theorem ratio_wide_over.calls (k : Nat) (a0_0 : Bool) (a0_1 : Int) (a0_2 : Int) (a1 : Int) (r1 : Bool) (r2 : Int) (r3 : Int) (w : World) (h : ratio_wide_over.f k a0_0 a0_1 a0_2 a1 = some (r1, r2, r3)) :
  Calls Tryd.prog 70 #[.agg #[.bool a0_0, .int .u64 a0_1, .int .u64 a0_2], .int .u64 a1] w fun e w' => e = .returned (.agg #[.bool r1, .int .u64 r2, .int .u64 r3]) ∧ Below w.heap.size w w' := by
 have hu58 := Tryd.underlying58; have HB := Aside0.mk (Below.refl w.heap.size w); have H : (if a1 = 0 then (none) else ((bits_Div64.f k (Int.tmod a0_1 a1) a0_2 a1).bind fun bt107 => (some (a0_0, IntKind.u64.wrap (Int.tdiv a0_1 a1), bt107.1)))) = some (r1, r2, r3) := h; clear h
 by_cases c3 : a1 = 0
 ·rw [if_pos c3] at H; exact absurd H (by simp)
 ·rw [if_neg c3] at H; have c3b0 : (a1 == 0) = false := beq_eq_false_iff_ne.mpr c3; have c3b1 : (a1 != 0) = true := bne_iff_ne.mpr c3; replace H := Option.bind_eq_some_iff.mp H; obtain ⟨⟨t107, t108⟩, A40, H⟩ := H; (try dsimp only at H); have A4 := Aside0.mk A40; clear A40; simp only [Option.some.injEq, Prod.mk.injEq] at H; obtain ⟨rfl, rfl, rfl⟩ := H; (go_enter Tryd.func70, Tryd.ntmps70); (try go_wp2_with (first | ((with_reducible refine gate_dst (N := 2) rfl ?_); refine bx (N := 2) (cs := #[.bool a0_0, .int .u64 a0_1, .int .u64 a0_2]) (t := 58) ?_; intro gb105 hg w5 hbox hb; have BK105 := Aside0.mk (hbox); have GW105 := gs HB hg; have GE105 := gs HB hg; replace HB := wb HB hb; clear hb hbox hg) | ((with_reducible refine gate_dst (N := 4) rfl ?_); refine bx (N := 4) (cs := #[.bool false, .int .u64 0, .int .u64 0]) (t := 58) ?_; intro gb106 hg w6 hbox hb; have BK106 := Aside0.mk (hbox); have GW106 := gs HB hg; have GE106 := gs HB hg; have NB105_106 := nl BK105 hg; have NB106_105 := nr BK105 hg; replace BK105 := kb BK105 hb; replace HB := wb HB hb; clear hb hbox hg))); have n0_ := Aside0.mk (blk_drew BK105.out); have n1_ := Aside0.mk (blk_drew BK106.out); have n2_ := Aside0.mk (below_drew1 HB.out); clear BK105; clear BK106; clear HB; have BK105 := n0_; have BK106 := n1_; have HB := n2_; clear n0_ n1_ n2_; refine start_ (n := 13) (S := fun w' => w'.cell? ⟨gb105, 0, none⟩ = some (.bool a0_0) ∧ w'.cell? ⟨gb105, 1, none⟩ = some (.int .u64 a0_1) ∧ w'.cell? ⟨gb105, 2, none⟩ = some (.int .u64 a0_2)) (ds := []) #[false, false, false, false, false, false, false, false, false, false, false, false, false] (by kernel_rfl) rfl rfl ⟨bc BK105 0, bc BK105 1, bc BK105 2⟩ (fun hHeld => ?_); refine with_tabW ratio_wide_over.tab1 ratio_wide_over.bits1 (fun HT_ HW_ => ?_); (generalize w6.drew = w7 at BK105 BK106 HB hHeld ⊢); refine pure_ (i := 0) (N := some 8) (v := ?_) (a' := ?_) #[true, false, false, false, false, false, false, false, false, false, false, false, false] rfl rfl (any_of HT_.out (by kernel_rfl)) (fun _ _ _ h => h) (Or.inl ⟨by rfl, ?_⟩) ?_ ?_; rotate_left
  ·intro w'; (go_simp); with_reducible rfl
  rotate_left
  ·simp only [Act.put, List.setIfInBounds_toArray, List.set_cons_zero, List.set_cons_succ, i64_w, i32_w]; rfl
  refine pure_ (i := 2) (N := some 10) (v := ?_) (a' := ?_) #[true, false, true, false, false, false, false, false, false, false, false, false, false] rfl rfl (any_of HT_.out (by kernel_rfl)) (fun _ _ _ h => h) (Or.inl ⟨by rfl, ?_⟩) ?_ ?_; rotate_left
  ·intro w'; (go_simp); with_reducible rfl
  rotate_left
  ·simp only [Act.put, List.setIfInBounds_toArray, List.set_cons_zero, List.set_cons_succ, i64_w, i32_w]; rfl
  refine pure_ (i := 4) (N := some 12) (v := ?_) (a' := ?_) #[true, false, true, false, true, false, false, false, false, false, false, false, false] rfl rfl (any_of HT_.out (by kernel_rfl)) (fun _ _ _ h => h) (Or.inl ⟨by rfl, ?_⟩) ?_ ?_; rotate_left
  ·intro w'; (go_simp); with_reducible rfl
  rotate_left
  ·simp only [Act.put, List.setIfInBounds_toArray, List.set_cons_zero, List.set_cons_succ, i64_w, i32_w]; rfl
  refine pure_ (i := 6) (N := some 14) (v := ?_) (a' := ?_) #[true, false, true, false, true, false, true, false, false, false, false, false, false] rfl rfl (any_of HT_.out (by kernel_rfl)) (fun _ _ _ h => h) (Or.inl ⟨by rfl, ?_⟩) ?_ ?_; rotate_left
  ·intro w'; (go_simp); with_reducible rfl
  rotate_left
  ·simp only [Act.put, List.setIfInBounds_toArray, List.set_cons_zero, List.set_cons_succ, i64_w, i32_w]; rfl
  refine take_ (i := 1) (N := some 9) (v := ?_) (a' := ?_) #[true, true, true, false, true, false, true, false, false, false, false, false, false] rfl rfl (take_ofW HT_.out HW_.out (by kernel_rfl)) (fun _ _ _ h => h) (Or.inl ⟨by rfl, ?_⟩) hHeld ?_ ?_; rotate_left
  ·rintro w' ⟨s0, s1, s2⟩; (go_simp); with_reducible rfl
  rotate_left
  ·simp only [Act.put, List.setIfInBounds_toArray, List.set_cons_zero, List.set_cons_succ, i64_w, i32_w]; rfl
  refine pure_ (i := 3) (N := some 11) (v := ?_) (a' := ?_) #[true, true, true, true, true, false, true, false, false, false, false, false, false] rfl rfl (any_of HT_.out (by kernel_rfl)) (fun _ _ _ h => h) (Or.inl ⟨by rfl, ?_⟩) ?_ ?_; rotate_left
  ·intro w'; (go_simp); with_reducible rfl
  rotate_left
  ·simp only [Act.put, List.setIfInBounds_toArray, List.set_cons_zero, List.set_cons_succ, i64_w, i32_w]; rfl
  refine take_ (i := 5) (N := some 13) (v := ?_) (a' := ?_) #[true, true, true, true, true, true, true, false, false, false, false, false, false] rfl rfl (take_ofW HT_.out HW_.out (by kernel_rfl)) (fun _ _ _ h => h) (Or.inl ⟨by rfl, ?_⟩) hHeld ?_ ?_; rotate_left
  ·rintro w' ⟨s0, s1, s2⟩; (go_simp); with_reducible rfl
  rotate_left
  ·simp only [Act.put, List.setIfInBounds_toArray, List.set_cons_zero, List.set_cons_succ, i64_w, i32_w]; rfl
  refine one_ (i := 7) (N := some 15) #[true, true, true, true, true, true, true, true, false, false, false, false, false] rfl rfl (one_of HT_.out (by kernel_rfl)) (by decide) (fun K hK => ?_); refine gz Tryd.func46 #[.int .u64 (Int.tmod a0_1 a1), .int .u64 a0_2, .int .u64 a1] ?_; (with_reducible refine (bits_Div64.calls k (Int.tmod a0_1 a1) a0_2 a1 t107 t108 _ A4.out).mono ?_); rintro e w' ⟨rfl, ⟨nd, rfl⟩⟩; refine ⟨_, rfl, ?_⟩; refine hK.out _ _ ⟨bc BK105 0, bc BK105 1, bc BK105 2⟩ (fun hHeld => ?_); clear hK K; refine norm_ (a' := ?_) ?_ ?_; rotate_left
  ·show Act.put _ (some 15) _ = _; simp only [Act.put, List.setIfInBounds_toArray, List.set_cons_zero, List.set_cons_succ, i64_w, i32_w]; rfl
  refine pure_ (i := 8) (N := some 7) (v := ?_) (a' := ?_) #[true, true, true, true, true, true, true, true, true, false, false, false, false] rfl rfl (any_of HT_.out (by kernel_rfl)) (fun _ _ _ h => h) (Or.inl ⟨by rfl, ?_⟩) ?_ ?_; rotate_left
  ·intro w'; (go_simp); with_reducible rfl
  rotate_left
  ·simp only [Act.put, List.setIfInBounds_toArray, List.set_cons_zero, List.set_cons_succ, i64_w, i32_w]; rfl
  refine pure_ (i := 9) (N := some 16) (v := ?_) (a' := ?_) #[true, true, true, true, true, true, true, true, true, true, false, false, false] rfl rfl (any_of HT_.out (by kernel_rfl)) (fun _ _ _ h => h) (Or.inl ⟨by rfl, ?_⟩) ?_ ?_; rotate_left
  ·intro w'; (go_simp); with_reducible rfl
  rotate_left
  ·simp only [Act.put, List.setIfInBounds_toArray, List.set_cons_zero, List.set_cons_succ, i64_w, i32_w]; rfl
  refine pure_ (i := 10) (N := some 17) (v := ?_) (a' := ?_) #[true, true, true, true, true, true, true, true, true, true, true, false, false] rfl rfl (any_of HT_.out (by kernel_rfl)) (fun _ _ _ h => h) (Or.inl ⟨by rfl, ?_⟩) ?_ ?_; rotate_left
  ·intro w'; (go_simp); with_reducible rfl
  rotate_left
  ·simp only [Act.put, List.setIfInBounds_toArray, List.set_cons_zero, List.set_cons_succ, i64_w, i32_w]; rfl
  refine pure_ (i := 11) (N := some 5) (v := ?_) (a' := ?_) #[true, true, true, true, true, true, true, true, true, true, true, true, false] rfl rfl (any_of HT_.out (by kernel_rfl)) (fun _ _ _ h => h) (Or.inl ⟨by rfl, ?_⟩) ?_ ?_; rotate_left
  ·intro w'; (go_simp); with_reducible rfl
  rotate_left
  ·simp only [Act.put, List.setIfInBounds_toArray, List.set_cons_zero, List.set_cons_succ, i64_w, i32_w]; rfl
  refine pure_ (i := 12) (N := some 6) (v := ?_) (a' := ?_) #[true, true, true, true, true, true, true, true, true, true, true, true, true] rfl rfl (any_of HT_.out (by kernel_rfl)) (fun _ _ _ h => h) (Or.inl ⟨by rfl, ?_⟩) ?_ ?_; rotate_left
  ·intro w'; (go_simp); with_reducible rfl
  rotate_left
  ·simp only [Act.put, List.setIfInBounds_toArray, List.set_cons_zero, List.set_cons_succ, i64_w, i32_w]; rfl
  refine done_ (done_of HT_.out (by kernel_rfl)) ?_; (try go_wp2); (try (rw [drewN_self w7]; generalize hq_ : World.drewN w7 _ = w7; replace BK105 : Aside0 (w7.heap[gb105]? = some (.cells #[.bool a0_0, .int .u64 a0_1, .int .u64 a0_2] 58 (0, 0))) := ⟨by rw [← hq_]; exact (bq BK105)⟩; replace BK106 : Aside0 (w7.heap[gb106]? = some (.cells #[.bool false, .int .u64 0, .int .u64 0] 58 (0, 0))) := ⟨by rw [← hq_]; exact (bq BK106)⟩; replace HB : Aside0 (Below w.heap.size w w7) := ⟨by rw [← hq_]; exact (bw HB)⟩; clear hq_)); have n0_ := Aside0.mk (blk_drew BK105.out); have n1_ := Aside0.mk (blk_drew BK106.out); have n2_ := Aside0.mk (below_drew1 HB.out); clear BK105; clear BK106; clear HB; have BK105 := n0_; have BK106 := n1_; have HB := n2_; clear n0_ n1_ n2_; refine start_ (n := 9) (S := fun w' => w'.cell? ⟨gb105, 0, none⟩ = some (.bool a0_0) ∧ w'.cell? ⟨gb105, 1, none⟩ = some (.int .u64 a0_1) ∧ w'.cell? ⟨gb105, 2, none⟩ = some (.int .u64 a0_2)) (ds := []) #[false, false, false, false, false, false, false, false, false] (by kernel_rfl) rfl rfl ⟨bc BK105 0, bc BK105 1, bc BK105 2⟩ (fun hHeld => ?_); refine with_tabW ratio_wide_over.tab2 ratio_wide_over.bits2 (fun HT_ HW_ => ?_); (generalize w7.drew = w8 at BK105 BK106 HB hHeld ⊢); refine pure_ (i := 0) (N := some 18) (v := ?_) (a' := ?_) #[true, false, false, false, false, false, false, false, false] rfl rfl (any_of HT_.out (by kernel_rfl)) (fun _ _ _ h => h) (Or.inl ⟨by rfl, ?_⟩) ?_ ?_; rotate_left
  ·intro w'; (go_simp); with_reducible rfl
  rotate_left
  ·simp only [Act.put, List.setIfInBounds_toArray, List.set_cons_zero, List.set_cons_succ, i64_w, i32_w]; rfl
  refine pure_ (i := 2) (N := some 20) (v := ?_) (a' := ?_) #[true, false, true, false, false, false, false, false, false] rfl rfl (any_of HT_.out (by kernel_rfl)) (fun _ _ _ h => h) (Or.inl ⟨by rfl, ?_⟩) ?_ ?_; rotate_left
  ·intro w'; (go_simp); with_reducible rfl
  rotate_left
  ·simp only [Act.put, List.setIfInBounds_toArray, List.set_cons_zero, List.set_cons_succ, i64_w, i32_w]; rfl
  refine pure_ (i := 4) (N := some 22) (v := ?_) (a' := ?_) #[true, false, true, false, true, false, false, false, false] rfl rfl (any_of HT_.out (by kernel_rfl)) (fun _ _ _ h => h) (Or.inl ⟨by rfl, ?_⟩) ?_ ?_; rotate_left
  ·intro w'; (go_simp); with_reducible rfl
  rotate_left
  ·simp only [Act.put, List.setIfInBounds_toArray, List.set_cons_zero, List.set_cons_succ, i64_w, i32_w]; rfl
  refine pure_ (i := 6) (N := some 24) (v := ?_) (a' := ?_) #[true, false, true, false, true, false, true, false, false] rfl rfl (any_of HT_.out (by kernel_rfl)) (fun _ _ _ h => h) (Or.inl ⟨by rfl, ?_⟩) ?_ ?_; rotate_left
  ·intro w'; (go_simp); with_reducible rfl
  rotate_left
  ·simp only [Act.put, List.setIfInBounds_toArray, List.set_cons_zero, List.set_cons_succ, i64_w, i32_w]; rfl
  refine take_ (i := 1) (N := some 19) (v := ?_) (a' := ?_) #[true, true, true, false, true, false, true, false, false] rfl rfl (take_ofW HT_.out HW_.out (by kernel_rfl)) (fun _ _ _ h => h) (Or.inl ⟨by rfl, ?_⟩) hHeld ?_ ?_; rotate_left
  ·rintro w' ⟨s0, s1, s2⟩; (go_simp); with_reducible rfl
  rotate_left
  ·simp only [Act.put, List.setIfInBounds_toArray, List.set_cons_zero, List.set_cons_succ, i64_w, i32_w]; rfl
  refine take_ (i := 3) (N := some 21) (v := ?_) (a' := ?_) #[true, true, true, true, true, false, true, false, false] rfl rfl (take_ofW HT_.out HW_.out (by kernel_rfl)) (fun _ _ _ h => h) (Or.inl ⟨by rfl, ?_⟩) hHeld ?_ ?_; rotate_left
  ·rintro w' ⟨s0, s1, s2⟩; (go_simp); with_reducible rfl
  rotate_left
  ·simp only [Act.put, List.setIfInBounds_toArray, List.set_cons_zero, List.set_cons_succ, i64_w, i32_w]; rfl
  refine pure_ (i := 5) (N := some 23) (v := ?_) (a' := ?_) #[true, true, true, true, true, true, true, false, false] rfl rfl (any_of HT_.out (by kernel_rfl)) (fun _ _ _ h => h) (Or.inl ⟨by rfl, ?_⟩) ?_ ?_; rotate_left
  ·intro w'; (go_simp); with_reducible rfl
  rotate_left
  ·simp only [Act.put, List.setIfInBounds_toArray, List.set_cons_zero, List.set_cons_succ, i64_w, i32_w]; rfl
  refine pure_ (i := 7) (N := some 25) (v := ?_) (a' := ?_) #[true, true, true, true, true, true, true, true, false] rfl rfl (any_of HT_.out (by kernel_rfl)) (fun _ _ _ h => h) (Or.inl ⟨by rfl, ?_⟩) ?_ ?_; rotate_left
  ·intro w'; (go_simp); with_reducible rfl
  rotate_left
  ·simp only [Act.put, List.setIfInBounds_toArray, List.set_cons_zero, List.set_cons_succ, i64_w, i32_w]; rfl
  refine one_ (i := 8) (N := none) #[true, true, true, true, true, true, true, true, true] rfl rfl (one_of HT_.out (by kernel_rfl)) (by decide) (fun K hK => ?_); have hs9 : w8.cell? ⟨gb106, 0, none⟩ = some (.bool false) := bc BK106 0; have hfs9 := blk_frozen BK106.out 0; have hns9_0 := NB105_106.out; have hms9_0 := NB106_105.out; have hs10 : w8.cell? ⟨gb106, 1, none⟩ = some (.int .u64 0) := bc BK106 1; have hfs10 := blk_frozen BK106.out 1; have hns10_0 := NB105_106.out; have hms10_0 := NB106_105.out; have hs11 : w8.cell? ⟨gb106, 2, none⟩ = some (.int .u64 0) := bc BK106 2; have hfs11 := blk_frozen BK106.out 2; have hns11_0 := NB105_106.out; have hms11_0 := NB106_105.out; refine skip_ (w1 := ?_) (by rfl) rfl ?_ ?_; rotate_left
  ·(go_simp); rfl
  refine hK.out _ _ ⟨((cell_far (p := ⟨gb106, _, none⟩) NB105_106.out _).trans (((cell_far (p := ⟨gb106, _, none⟩) NB105_106.out _).trans (((cell_far (p := ⟨gb106, _, none⟩) NB105_106.out _).trans (hHeld.1)))))), ((cell_far (p := ⟨gb106, _, none⟩) NB105_106.out _).trans (((cell_far (p := ⟨gb106, _, none⟩) NB105_106.out _).trans (((cell_far (p := ⟨gb106, _, none⟩) NB105_106.out _).trans (hHeld.2.1)))))), ((cell_far (p := ⟨gb106, _, none⟩) NB105_106.out _).trans (((cell_far (p := ⟨gb106, _, none⟩) NB105_106.out _).trans (((cell_far (p := ⟨gb106, _, none⟩) NB105_106.out _).trans (hHeld.2.2))))))⟩ (fun hHeld => ?_); clear hK K; refine done_ (done_of HT_.out (by kernel_rfl)) ?_; (try go_wp2); refine bodyPost_ret (results_cell_row rfl _ _ gb106 58 #[.bool a0_0, .int .u64 (IntKind.u64.wrap (Int.tdiv a0_1 a1)), .int .u64 t107] (0, 0) _ rfl (by refine pe ?_; refine blk_put (cs := #[.bool a0_0, .int .u64 (IntKind.u64.wrap (Int.tdiv a0_1 a1)), .int .u64 0]) ?_ 2 _ rfl; refine pe ?_; refine blk_put (cs := #[.bool a0_0, .int .u64 0, .int .u64 0]) ?_ 1 _ rfl; refine pe ?_; refine blk_put (cs := #[.bool false, .int .u64 0, .int .u64 0]) ?_ 0 _ rfl; refine pe ?_; exact BK106.out) Tryd.underlying58 rfl (by kernel_rfl)) rfl ?_; exact ⟨by first | rfl | (simp [errW_none, errW_some] <;> rfl) | (simp [*, errW_none, errW_some] <;> rfl), bw HB⟩

end Go.Proofs.YtbapkiclgkddcaaDoor.G

-- Printed by gp.py (a program of this session's own, over the kit's printer) out of the translation; Lean checks it.
namespace Go.Proofs.YtbapkiclgkddcaaDoor.G
open Go.Proofs.YtbapkiclgkddcaaDoor.Given Go.Proofs.YtbapkiclgkddcaaDoor.Short
open Go.RowKit Go.Proofs.YtbapkiclgkddcaaDoorW.PrintWords Go.Proofs.YtbapkiclgkddcaaDoorW.PrintLast Go.Proofs.YtbapkiclgkddcaaDoorW.PrintMore
attribute [local go_sem] max2_int min2_int max_two min_two max_three min_three max_four min_four   -- for this text's walks alone
set_option linter.unusedVariables false
set_option linter.unusedSimpArgs false

/-! ### ratio_lowest: function 40 -/
def ratio_lowest.j0 : Nat → Int → Bool → Bool → Int → Int → Option (Int × Int × Int)
 | 0, _, _, _, _, _ => none
 | k + 1, x1, x33, x110000, x110001, x110002 => if x33 = true then (some (0, 0, 6)) else (if x110000 = true then (some (wrap64 (-(wrap64 (x110002))), wrap64 (x1), 0)) else (some (wrap64 (x110002), wrap64 (x1), 0)))
def ratio_lowest.f (k : Nat) (a0_0 : Bool) (a0_1 : Int) (a0_2 : Int) (a1 : Int) : Option (Int × Int × Int) := (bits_Rem64.f k a0_1 a0_2 a1).bind fun t111 => ((ratio_gcd.f k a1 t111).bind fun t112 => ((ratio_wide_over.f k a0_0 a0_1 a0_2 t112).bind fun bt113 => (if t112 = 0 then (none) else (if bt113.2.1 = 0 then (if bt113.2.2 > 1152921504606846976 then (ratio_lowest.j0 k (IntKind.u64.wrap (Int.tdiv a1 t112)) true bt113.1 bt113.2.1 bt113.2.2) else (ratio_lowest.j0 k (IntKind.u64.wrap (Int.tdiv a1 t112)) (decide ((IntKind.u64.wrap (Int.tdiv a1 t112)) > 1152921504606846976)) bt113.1 bt113.2.1 bt113.2.2)) else (ratio_lowest.j0 k (IntKind.u64.wrap (Int.tdiv a1 t112)) true bt113.1 bt113.2.1 bt113.2.2)))))
theorem ratio_lowest.mono_l : ∀ k, (∀ y0 y1 y2 y3 y4, LeO (ratio_lowest.j0 k y0 y1 y2 y3 y4) (ratio_lowest.j0 (k + 1) y0 y1 y2 y3 y4))
 | 0 => fun _ _ _ _ _ r h => by simp [ratio_lowest.j0] at h
 | k + 1 => by
  have ih0 := ratio_lowest.mono_l k
  ·intro y0 y1 y2 y3 y4; unfold ratio_lowest.j0
   repeat' first
   | (with_reducible exact ih0 _ _ _ _ _)
   | (with_reducible exact bits_Rem64.mono _ _ _ _)
   | (with_reducible exact ratio_gcd.mono _ _ _)
   | (with_reducible exact ratio_wide_over.mono _ _ _ _ _)
   | (with_reducible exact LeO.refl _)
   | (with_reducible exact LeO.none _)
   | (with_reducible refine LeO.ite ?_ ?_)
   | (with_reducible refine LeO.bind ?_ (fun _ => ?_))
   | exact ih0 _ _ _ _ _
   | exact bits_Rem64.mono _ _ _ _
   | exact ratio_gcd.mono _ _ _
   | exact ratio_wide_over.mono _ _ _ _ _
   | exact LeO.none _
   | refine LeO.ite ?_ ?_
   | refine LeO.bind ?_ (fun _ => ?_)
theorem ratio_lowest.mono : ∀ a0 a1 a2 a3 k, LeO (ratio_lowest.f k a0 a1 a2 a3) (ratio_lowest.f (k + 1) a0 a1 a2 a3) := by
 intro a0 a1 a2 a3 k; have ih0 := ratio_lowest.mono_l k; unfold ratio_lowest.f
 repeat' first
   | (with_reducible exact ih0 _ _ _ _ _)
   | (with_reducible exact bits_Rem64.mono _ _ _ _)
   | (with_reducible exact ratio_gcd.mono _ _ _)
   | (with_reducible exact ratio_wide_over.mono _ _ _ _ _)
   | (with_reducible exact LeO.refl _)
   | (with_reducible exact LeO.none _)
   | (with_reducible refine LeO.ite ?_ ?_)
   | (with_reducible refine LeO.bind ?_ (fun _ => ?_))
   | exact ih0 _ _ _ _ _
   | exact bits_Rem64.mono _ _ _ _
   | exact ratio_gcd.mono _ _ _
   | exact ratio_wide_over.mono _ _ _ _ _
   | exact LeO.none _
   | refine LeO.ite ?_ ?_
   | refine LeO.bind ?_ (fun _ => ?_)
def ratio_lowest.T2 : Bool × List (List Nat × List Nat) := (true, [([], []), ([], []), ([0, 1], [0, 1]), ([], []), ([], []), ([3, 4], [3, 4]), ([2, 2, 0, 1, 2], [2]), ([5, 6, 0, 1, 2, 3, 4, 5, 6], [3, 5])])
def ratio_lowest.B2 : List Nat := [0, 0, 3, 0, 0, 24, 7, 127]
theorem ratio_lowest.tab2 : rtab .any (opsOf Tryd.f40 2) = ratio_lowest.T2 := by kernel_rfl
theorem ratio_lowest.bits2 : waitsOk ratio_lowest.T2.2 ratio_lowest.B2 = true := by kernel_rfl
set_option maxHeartbeats 8000000 in
set_option maxRecDepth 100000 in
theorem ratio_lowest.calls (k : Nat) (a0_0 : Bool) (a0_1 : Int) (a0_2 : Int) (a1 : Int) (r1 : Int) (r2 : Int) (r3 : Int) (w : World) (h : ratio_lowest.f k a0_0 a0_1 a0_2 a1 = some (r1, r2, r3)) :
  Calls Tryd.prog 40 #[.agg #[.bool a0_0, .int .u64 a0_1, .int .u64 a0_2], .int .u64 a1] w fun e w' => e = .returned (.tuple #[.agg #[.int .i64 r1, .int .i64 r2], .int .i64 r3]) ∧ Below w.heap.size w w' := by
 have hu58 := Tryd.underlying58; have hu24 := Tryd.underlying24; have HB := Aside0.mk (Below.refl w.heap.size w); have H : ((bits_Rem64.f k a0_1 a0_2 a1).bind fun t111 => ((ratio_gcd.f k a1 t111).bind fun t112 => ((ratio_wide_over.f k a0_0 a0_1 a0_2 t112).bind fun bt113 => (if t112 = 0 then (none) else (if bt113.2.1 = 0 then (if bt113.2.2 > 1152921504606846976 then (ratio_lowest.j0 k (IntKind.u64.wrap (Int.tdiv a1 t112)) true bt113.1 bt113.2.1 bt113.2.2) else (ratio_lowest.j0 k (IntKind.u64.wrap (Int.tdiv a1 t112)) (decide ((IntKind.u64.wrap (Int.tdiv a1 t112)) > 1152921504606846976)) bt113.1 bt113.2.1 bt113.2.2)) else (ratio_lowest.j0 k (IntKind.u64.wrap (Int.tdiv a1 t112)) true bt113.1 bt113.2.1 bt113.2.2)))))) = some (r1, r2, r3) := h; clear h; replace H := Option.bind_eq_some_iff.mp H; obtain ⟨t111, A30, H⟩ := H; (try dsimp only at H); have A3 := Aside0.mk A30; clear A30; replace H := Option.bind_eq_some_iff.mp H; obtain ⟨t112, A40, H⟩ := H; (try dsimp only at H); have A4 := Aside0.mk A40; clear A40; replace H := Option.bind_eq_some_iff.mp H; obtain ⟨⟨t113, t114, t115⟩, A50, H⟩ := H; (try dsimp only at H); have A5 := Aside0.mk A50; clear A50
 by_cases c6 : t112 = 0
 ·rw [if_pos c6] at H; exact absurd H (by simp)
 ·rw [if_neg c6] at H; have c6b0 : (t112 == 0) = false := beq_eq_false_iff_ne.mpr c6; have c6b1 : (t112 != 0) = true := bne_iff_ne.mpr c6; have HC7 := Aside0.mk H; clear H; (go_enter Tryd.func40, Tryd.ntmps40); (try go_wp2_with (first | ((with_reducible refine gate_dst (N := 2) rfl ?_); refine bx (N := 2) (cs := #[.bool a0_0, .int .u64 a0_1, .int .u64 a0_2]) (t := 58) ?_; intro gb109 hg w8 hbox hb; have BK109 := Aside0.mk (hbox); have GW109 := gs HB hg; have GE109 := gs HB hg; replace HB := wb HB hb; clear hb hbox hg) | ((with_reducible refine gate_dst (N := 4) rfl ?_); refine bx (N := 4) (cs := #[.int .i64 0, .int .i64 0]) (t := 24) ?_; intro gb110 hg w9 hbox hb; have BK110 := Aside0.mk (hbox); have GW110 := gs HB hg; have GE110 := gs HB hg; have NB109_110 := nl BK109 hg; have NB110_109 := nr BK109 hg; replace BK109 := kb BK109 hb; replace HB := wb HB hb; clear hb hbox hg; obtain ⟨hnb10, hnc10⟩ := n2 NB109_110; have hcz11_0 : w9.cell? ⟨gb109, 0, none⟩ = some (.bool a0_0) := bc BK109 0; have hcz11_1 : w9.cell? ⟨gb109, 1, none⟩ = some (.int .u64 a0_1) := bc BK109 1; have hcz11_2 : w9.cell? ⟨gb109, 2, none⟩ = some (.int .u64 a0_2) := bc BK109 2; have hfz11_0 := blk_frozen BK109.out 0; have hfz11_1 := blk_frozen BK109.out 1; have hfz11_2 := blk_frozen BK109.out 2) | ((with_reducible refine gate_callee (f := 69) rfl ?_); refine gl (some 14) Tryd.func69 #[.int .u64 a0_1, .int .u64 a0_2, .int .u64 a1] ?_; (with_reducible refine (bits_Rem64.calls k a0_1 a0_2 a1 t111 _ A3.out).mono ?_); rintro e w' ⟨rfl, ⟨nd, rfl⟩⟩; refine ⟨_, rfl, ?_⟩; (try (rw [drewN_self w9]; generalize hq_ : World.drewN w9 _ = w9; replace BK109 : Aside0 (w9.heap[gb109]? = some (.cells #[.bool a0_0, .int .u64 a0_1, .int .u64 a0_2] 58 (0, 0))) := ⟨by rw [← hq_]; exact (bq BK109)⟩; replace BK110 : Aside0 (w9.heap[gb110]? = some (.cells #[.int .i64 0, .int .i64 0] 24 (0, 0))) := ⟨by rw [← hq_]; exact (bq BK110)⟩; replace HB : Aside0 (Below w.heap.size w w9) := ⟨by rw [← hq_]; exact (bw HB)⟩; clear hq_))) | ((with_reducible refine gate_callee (f := 68) rfl ?_); refine gl (some 15) Tryd.func68 #[.int .u64 a1, .int .u64 t111] ?_; (with_reducible refine (ratio_gcd.calls k a1 t111 t112 _ A4.out).mono ?_); rintro e w' ⟨rfl, ⟨nd, rfl⟩⟩; refine ⟨_, rfl, ?_⟩; (try (rw [drewN_self w9]; generalize hq_ : World.drewN w9 _ = w9; replace BK109 : Aside0 (w9.heap[gb109]? = some (.cells #[.bool a0_0, .int .u64 a0_1, .int .u64 a0_2] 58 (0, 0))) := ⟨by rw [← hq_]; exact (bq BK109)⟩; replace BK110 : Aside0 (w9.heap[gb110]? = some (.cells #[.int .i64 0, .int .i64 0] 24 (0, 0))) := ⟨by rw [← hq_]; exact (bq BK110)⟩; replace HB : Aside0 (Below w.heap.size w w9) := ⟨by rw [← hq_]; exact (bw HB)⟩; clear hq_))))); have n0_ := Aside0.mk (blk_drew BK109.out); have n1_ := Aside0.mk (blk_drew BK110.out); have n2_ := Aside0.mk (below_drew1 HB.out); clear BK109; clear BK110; clear HB; have BK109 := n0_; have BK110 := n1_; have HB := n2_; clear n0_ n1_ n2_; refine start_ (n := 8) (S := fun w' => w'.cell? ⟨gb109, 0, none⟩ = some (.bool a0_0) ∧ w'.cell? ⟨gb109, 1, none⟩ = some (.int .u64 a0_1) ∧ w'.cell? ⟨gb109, 2, none⟩ = some (.int .u64 a0_2)) (ds := [6]) #[false, false, false, false, false, false, false, false] (by kernel_rfl) rfl rfl ⟨bc BK109 0, bc BK109 1, bc BK109 2⟩ (fun hHeld => ?_); refine with_tabW ratio_lowest.tab2 ratio_lowest.bits2 (fun HT_ HW_ => ?_); (generalize w9.drew = w12 at BK109 BK110 HB hHeld ⊢); refine pure_ (i := 1) (N := some 17) (v := ?_) (a' := ?_) #[false, true, false, false, false, false, false, false] rfl rfl (any_of HT_.out (by kernel_rfl)) (fun _ _ _ h => h) (Or.inl ⟨by rfl, ?_⟩) ?_ ?_; rotate_left
  ·intro w'; (go_simp); with_reducible rfl
  rotate_left
  ·simp only [Act.put, List.setIfInBounds_toArray, List.set_cons_zero, List.set_cons_succ, i64_w, i32_w]; rfl
  refine pure_ (i := 3) (N := some 19) (v := ?_) (a' := ?_) #[false, true, false, true, false, false, false, false] rfl rfl (any_of HT_.out (by kernel_rfl)) (fun _ _ _ h => h) (Or.inl ⟨by rfl, ?_⟩) ?_ ?_; rotate_left
  ·intro w'; (go_simp); with_reducible rfl
  rotate_left
  ·simp only [Act.put, List.setIfInBounds_toArray, List.set_cons_zero, List.set_cons_succ, i64_w, i32_w]; rfl
  refine pure_ (i := 4) (N := some 20) (v := ?_) (a' := ?_) #[false, true, false, true, true, false, false, false] rfl rfl (any_of HT_.out (by kernel_rfl)) (fun _ _ _ h => h) (Or.inl ⟨by rfl, ?_⟩) ?_ ?_; rotate_left
  ·intro w'; (go_simp); with_reducible rfl
  rotate_left
  ·simp only [Act.put, List.setIfInBounds_toArray, List.set_cons_zero, List.set_cons_succ, i64_w, i32_w]; rfl
  refine pure_ (i := 5) (N := some 21) (v := ?_) (a' := ?_) #[false, true, false, true, true, true, false, false] rfl rfl (any_of HT_.out (by kernel_rfl)) (fun _ _ _ h => h) (Or.inl ⟨by rfl, ?_⟩) ?_ ?_; rotate_left
  ·intro w'; (go_simp); with_reducible rfl
  rotate_left
  ·simp only [Act.put, List.setIfInBounds_toArray, List.set_cons_zero, List.set_cons_succ, i64_w, i32_w]; rfl
  refine take_ (i := 0) (N := some 16) (v := ?_) (a' := ?_) #[true, true, false, true, true, true, false, false] rfl rfl (take_ofW HT_.out HW_.out (by kernel_rfl)) (fun _ _ _ h => h) (Or.inl ⟨by rfl, ?_⟩) hHeld ?_ ?_; rotate_left
  ·rintro w' ⟨s0, s1, s2⟩; (go_simp); with_reducible rfl
  rotate_left
  ·simp only [Act.put, List.setIfInBounds_toArray, List.set_cons_zero, List.set_cons_succ, i64_w, i32_w]; rfl
  refine one_ (i := 2) (N := some 18) #[true, true, true, true, true, true, false, false] rfl rfl (one_of HT_.out (by kernel_rfl)) (by decide) (fun K hK => ?_); refine gz Tryd.func70 #[.agg #[.bool a0_0, .int .u64 a0_1, .int .u64 a0_2], .int .u64 t112] ?_; (with_reducible refine (ratio_wide_over.calls k a0_0 a0_1 a0_2 t112 t113 t114 t115 _ A5.out).mono ?_); rintro e w13 ⟨rfl, hb⟩; refine ⟨_, rfl, ?_⟩; have n0_ := kb BK109 hb; have n1_ := kb BK110 hb; have n2_ := wb HB hb; clear BK109; clear BK110; clear HB; have BK109 := n0_; have BK110 := n1_; have HB := n2_; clear n0_ n1_ n2_; (try clear hb); (try clear hb2); (try clear hk); (try clear hi); refine hK.out _ _ ⟨bc BK109 0, bc BK109 1, bc BK109 2⟩ (fun hHeld => ?_); clear hK K; refine norm_ (a' := ?_) ?_ ?_; rotate_left
  ·show Act.put _ (some 18) _ = _; simp only [Act.put, List.setIfInBounds_toArray, List.set_cons_zero, List.set_cons_succ, i64_w, i32_w]; rfl
  refine last_ (i := 6) (N := none) #[true, true, true, true, true, true, true, false] rfl rfl (one_of HT_.out (by kernel_rfl)) (by decide) (fun K hK => ?_); have hs14 : w13.cell? ⟨gb109, 0, none⟩ = some (.bool a0_0) := bc BK109 0; have hfs14 := blk_frozen BK109.out 0; have hns14_1 := NB110_109.out; have hms14_1 := NB109_110.out; have hs15 : w13.cell? ⟨gb109, 1, none⟩ = some (.int .u64 a0_1) := bc BK109 1; have hfs15 := blk_frozen BK109.out 1; have hns15_1 := NB110_109.out; have hms15_1 := NB109_110.out; have hs16 : w13.cell? ⟨gb109, 2, none⟩ = some (.int .u64 a0_2) := bc BK109 2; have hfs16 := blk_frozen BK109.out 2; have hns16_1 := NB110_109.out; have hms16_1 := NB109_110.out; refine skip_ (w1 := ?_) (by rfl) rfl ?_ ?_; rotate_left
  ·(go_simp); rfl
  refine hK.out _ _ ?_; clear hK K; refine pure_ (i := 7) (N := some 1) (v := ?_) (a' := ?_) #[true, true, true, true, true, true, true, true] rfl rfl (any_of HT_.out (by kernel_rfl)) (fun _ _ _ h => h) (Or.inl ⟨by rfl, ?_⟩) ?_ ?_; rotate_left
  ·intro w'; (go_simp); with_reducible rfl
  rotate_left
  ·simp only [Act.put, List.setIfInBounds_toArray, List.set_cons_zero, List.set_cons_succ, i64_w, i32_w]; rfl
  refine done_ (done_of HT_.out (by kernel_rfl)) ?_
  go_upto_region 3 with (fail)
  go_cut [33] (fun v33 wc => ∃ (kq : Nat) (x33_6 : Bool), v33 = .bool x33_6 ∧ Aside0 (ratio_lowest.j0 kq (IntKind.u64.wrap (Int.tdiv a1 t112)) x33_6 t113 t114 t115 = some (r1, r2, r3)) ∧ Aside0 (kq ≤ k) ∧ Aside0 (wc.heap[gb109]? = some (.cells #[.bool t113, .int .u64 t114, .int .u64 t115] 58 (0, 0))) ∧ Aside0 (wc.heap[gb110]? = some (.cells #[.int .i64 0, .int .i64 0] 24 (0, 0))) ∧ Aside0 (Below w.heap.size w wc))
  case first =>
   have H := HC7.out; clear HC7
   by_cases c17 : t114 = 0
   ·rw [if_pos c17] at H; have c17b0 : (t114 == 0) = true := beq_iff_eq.mpr c17; have c17b1 : (t114 != 0) = false := bne_eq_false_iff_eq.mpr c17; clear c17
    (first | rw [c17b0] | (simp only [i64_w, i32_w]; rw [c17b0]) | skip)
    by_cases c18 : t115 > 1152921504606846976
    ·rw [if_pos c18] at H; have c18b0 : decide (1152921504606846976 < t115) = true := decide_eq_true c18; clear c18; have H' := Aside0.mk H; clear H; obtain ⟨hnb19, hnc19⟩ := n2 NB109_110; have hcz20_0 : w13.cell? ⟨gb109, 0, none⟩ = some (.bool a0_0) := bc BK109 0; have hcz20_1 : w13.cell? ⟨gb109, 1, none⟩ = some (.int .u64 a0_1) := bc BK109 1; have hcz20_2 : w13.cell? ⟨gb109, 2, none⟩ = some (.int .u64 a0_2) := bc BK109 2; have hfz20_0 := blk_frozen BK109.out 0; have hfz20_1 := blk_frozen BK109.out 1; have hfz20_2 := blk_frozen BK109.out 2; go_wp2
     go_meet
     case rel => exact ⟨_, (true), (by first | rfl | (simp; done) | (simp [*]; done)), H', ⟨by first | omega | exact Nat.le_refl _⟩, ⟨by refine pe ?_; refine blk_put (cs := #[.bool t113, .int .u64 t114, .int .u64 a0_2]) ?_ 2 _ rfl; refine pe ?_; refine blk_put (cs := #[.bool t113, .int .u64 a0_1, .int .u64 a0_2]) ?_ 1 _ rfl; refine pe ?_; refine blk_put (cs := #[.bool a0_0, .int .u64 a0_1, .int .u64 a0_2]) ?_ 0 _ rfl; refine pe ?_; exact BK109.out⟩, ⟨bq BK110⟩, ⟨bw HB⟩⟩
    ·rw [if_neg c18] at H; have c18b0 : decide (1152921504606846976 < t115) = false := decide_eq_false c18; clear c18; have H' := Aside0.mk H; clear H; obtain ⟨hnb21, hnc21⟩ := n2 NB109_110; have hcz22_0 : w13.cell? ⟨gb109, 0, none⟩ = some (.bool a0_0) := bc BK109 0; have hcz22_1 : w13.cell? ⟨gb109, 1, none⟩ = some (.int .u64 a0_1) := bc BK109 1; have hcz22_2 : w13.cell? ⟨gb109, 2, none⟩ = some (.int .u64 a0_2) := bc BK109 2; have hfz22_0 := blk_frozen BK109.out 0; have hfz22_1 := blk_frozen BK109.out 1; have hfz22_2 := blk_frozen BK109.out 2; go_wp2
     go_meet
     case rel => exact ⟨_, (decide ((IntKind.u64.wrap (Int.tdiv a1 t112)) > 1152921504606846976)), (by first | rfl | (simp; done) | (simp [*]; done)), H', ⟨by first | omega | exact Nat.le_refl _⟩, ⟨by refine pe ?_; refine blk_put (cs := #[.bool t113, .int .u64 t114, .int .u64 a0_2]) ?_ 2 _ rfl; refine pe ?_; refine blk_put (cs := #[.bool t113, .int .u64 a0_1, .int .u64 a0_2]) ?_ 1 _ rfl; refine pe ?_; refine blk_put (cs := #[.bool a0_0, .int .u64 a0_1, .int .u64 a0_2]) ?_ 0 _ rfl; refine pe ?_; exact BK109.out⟩, ⟨bq BK110⟩, ⟨bw HB⟩⟩
   ·rw [if_neg c17] at H; have c17b0 : (t114 == 0) = false := beq_eq_false_iff_ne.mpr c17; have c17b1 : (t114 != 0) = true := bne_iff_ne.mpr c17
    (first | rw [c17b0] | (simp only [i64_w, i32_w]; rw [c17b0]) | skip)
    have H' := Aside0.mk H; clear H; obtain ⟨hnb23, hnc23⟩ := n2 NB109_110; have hcz24_0 : w13.cell? ⟨gb109, 0, none⟩ = some (.bool a0_0) := bc BK109 0; have hcz24_1 : w13.cell? ⟨gb109, 1, none⟩ = some (.int .u64 a0_1) := bc BK109 1; have hcz24_2 : w13.cell? ⟨gb109, 2, none⟩ = some (.int .u64 a0_2) := bc BK109 2; have hfz24_0 := blk_frozen BK109.out 0; have hfz24_1 := blk_frozen BK109.out 1; have hfz24_2 := blk_frozen BK109.out 2; go_wp2
    go_meet
    case rel => exact ⟨_, (true), (by first | rfl | (simp; done) | (simp [*]; done)), H', ⟨by first | omega | exact Nat.le_refl _⟩, ⟨by refine pe ?_; refine blk_put (cs := #[.bool t113, .int .u64 t114, .int .u64 a0_2]) ?_ 2 _ rfl; refine pe ?_; refine blk_put (cs := #[.bool t113, .int .u64 a0_1, .int .u64 a0_2]) ?_ 1 _ rfl; refine pe ?_; refine blk_put (cs := #[.bool a0_0, .int .u64 a0_1, .int .u64 a0_2]) ?_ 0 _ rfl; refine pe ?_; exact BK109.out⟩, ⟨bq BK110⟩, ⟨bw HB⟩⟩
  case rest =>
   clear HC7; (try clear c1); (try clear c2); (try clear p2); (try clear c4); (try clear c6); (try clear c6b0); (try clear c6b1); (try clear c7); (try clear c10); (try clear c17); (try clear c17b0); (try clear c17b1); (try clear c18); (try clear c18b0); (try clear c19); (try clear c21); (try clear c23); (try clear hcz11_0); (try clear hcz11_1); (try clear hcz11_2); (try clear hcz20_0); (try clear hcz20_1); (try clear hcz20_2); (try clear hcz22_0); (try clear hcz22_1); (try clear hcz22_2); (try clear hcz24_0); (try clear hcz24_1); (try clear hcz24_2); (try clear hfz11_0); (try clear hfz11_1); (try clear hfz11_2); (try clear hfz20_0); (try clear hfz20_1); (try clear hfz20_2); (try clear hfz22_0); (try clear hfz22_1); (try clear hfz22_2); (try clear hfz24_0); (try clear hfz24_1); (try clear hfz24_2); obtain ⟨kq, x33_6, rfl, HA, HJ6, BK109, BK110, HB⟩ := hcut
   cases kq with
   | zero => exact absurd HA.out (by simp [ratio_lowest.j0])
   | succ kj6 =>
    have H := HA.out; clear HA; simp only [ratio_lowest.j0] at H
    by_cases c25 : x33_6 = true
    ·subst c25; (have H1 : (some (0, 0, 6)) = some (r1, r2, r3) := by rw [if_pos rfl] at H; exact H); clear H; have H := H1; clear H1; simp only [Option.some.injEq, Prod.mk.injEq] at H; obtain ⟨rfl, rfl, rfl⟩ := H; obtain ⟨hnb26, hnc26⟩ := n2 NB110_109; have hcz27_0 : wc.cell? ⟨gb110, 0, none⟩ = some (.int .i64 0) := bc BK110 0; have hcz27_1 : wc.cell? ⟨gb110, 1, none⟩ = some (.int .i64 0) := bc BK110 1; have hfz27_0 := blk_frozen BK110.out 0; have hfz27_1 := blk_frozen BK110.out 1; (go_wp2); refine bodyPost_ret (results_ct rfl _ _ gb110 24 #[.int .i64 0, .int .i64 0] (0, 0) _ rfl (by refine pe ?_; refine blk_put (cs := #[.int .i64 0, .int .i64 0]) ?_ 1 _ rfl; refine pe ?_; refine blk_put (cs := #[.int .i64 0, .int .i64 0]) ?_ 0 _ rfl; refine pe ?_; exact BK110.out) Tryd.underlying24 rfl (by kernel_rfl)) rfl ?_; exact ⟨by first | rfl | (simp [errW_none, errW_some] <;> rfl) | (simp [*, errW_none, errW_some] <;> rfl), bw HB⟩
    ·replace c25 := Bool.eq_false_iff.mpr c25; subst c25; (have H1 : (if t113 = true then (some (wrap64 (-(wrap64 (t115))), wrap64 ((IntKind.u64.wrap (Int.tdiv a1 t112))), 0)) else (some (wrap64 (t115), wrap64 ((IntKind.u64.wrap (Int.tdiv a1 t112))), 0))) = some (r1, r2, r3) := by rw [if_neg (show ¬ (false = true) by decide)] at H; exact H); clear H; have H := H1; clear H1
     by_cases c28 : t113 = true
     ·subst c28; (have H1 : (some (wrap64 (-(wrap64 (t115))), wrap64 ((IntKind.u64.wrap (Int.tdiv a1 t112))), 0)) = some (r1, r2, r3) := by rw [if_pos rfl] at H; exact H); clear H; have H := H1; clear H1; simp only [Option.some.injEq, Prod.mk.injEq] at H; obtain ⟨rfl, rfl, rfl⟩ := H; obtain ⟨hnb29, hnc29⟩ := n2 NB109_110; have hcz30_0 : wc.cell? ⟨gb109, 0, none⟩ = some (.bool true) := bc BK109 0; have hcz30_1 : wc.cell? ⟨gb109, 1, none⟩ = some (.int .u64 t114) := bc BK109 1; have hcz30_2 : wc.cell? ⟨gb109, 2, none⟩ = some (.int .u64 t115) := bc BK109 2; have hfz30_0 := blk_frozen BK109.out 0; have hfz30_1 := blk_frozen BK109.out 1; have hfz30_2 := blk_frozen BK109.out 2; have hcz31_0 : wc.cell? ⟨gb110, 0, none⟩ = some (.int .i64 0) := bc BK110 0; have hcz31_1 : wc.cell? ⟨gb110, 1, none⟩ = some (.int .i64 0) := bc BK110 1; have hfz31_0 := blk_frozen BK110.out 0; have hfz31_1 := blk_frozen BK110.out 1; (go_wp2); refine bodyPost_ret (results_ct rfl _ _ gb110 24 #[.int .i64 (wrap64 (-(wrap64 (t115)))), .int .i64 (wrap64 ((IntKind.u64.wrap (Int.tdiv a1 t112))))] (0, 0) _ rfl (by refine pe ?_; refine blk_put (cs := #[.int .i64 (wrap64 (-(wrap64 (t115)))), .int .i64 0]) ?_ 1 _ rfl; refine pe ?_; refine blk_put (cs := #[.int .i64 0, .int .i64 0]) ?_ 0 _ rfl; refine pe ?_; exact BK110.out) Tryd.underlying24 rfl (by kernel_rfl)) rfl ?_; exact ⟨by first | rfl | (simp [errW_none, errW_some] <;> rfl) | (simp [*, errW_none, errW_some] <;> rfl), bw HB⟩
     ·replace c28 := Bool.eq_false_iff.mpr c28; subst c28; (have H1 : (some (wrap64 (t115), wrap64 ((IntKind.u64.wrap (Int.tdiv a1 t112))), 0)) = some (r1, r2, r3) := by rw [if_neg (show ¬ (false = true) by decide)] at H; exact H); clear H; have H := H1; clear H1; simp only [Option.some.injEq, Prod.mk.injEq] at H; obtain ⟨rfl, rfl, rfl⟩ := H; obtain ⟨hnb32, hnc32⟩ := n2 NB109_110; have hcz33_0 : wc.cell? ⟨gb109, 0, none⟩ = some (.bool false) := bc BK109 0; have hcz33_1 : wc.cell? ⟨gb109, 1, none⟩ = some (.int .u64 t114) := bc BK109 1; have hcz33_2 : wc.cell? ⟨gb109, 2, none⟩ = some (.int .u64 t115) := bc BK109 2; have hfz33_0 := blk_frozen BK109.out 0; have hfz33_1 := blk_frozen BK109.out 1; have hfz33_2 := blk_frozen BK109.out 2; have hcz34_0 : wc.cell? ⟨gb110, 0, none⟩ = some (.int .i64 0) := bc BK110 0; have hcz34_1 : wc.cell? ⟨gb110, 1, none⟩ = some (.int .i64 0) := bc BK110 1; have hfz34_0 := blk_frozen BK110.out 0; have hfz34_1 := blk_frozen BK110.out 1; (go_wp2); refine bodyPost_ret (results_ct rfl _ _ gb110 24 #[.int .i64 (wrap64 (t115)), .int .i64 (wrap64 ((IntKind.u64.wrap (Int.tdiv a1 t112))))] (0, 0) _ rfl (by refine pe ?_; refine blk_put (cs := #[.int .i64 (wrap64 (t115)), .int .i64 0]) ?_ 1 _ rfl; refine pe ?_; refine blk_put (cs := #[.int .i64 0, .int .i64 0]) ?_ 0 _ rfl; refine pe ?_; exact BK110.out) Tryd.underlying24 rfl (by kernel_rfl)) rfl ?_; exact ⟨by first | rfl | (simp [errW_none, errW_some] <;> rfl) | (simp [*, errW_none, errW_some] <;> rfl), bw HB⟩

end Go.Proofs.YtbapkiclgkddcaaDoor.G

/- ratio.Parse: its contract. The loop over the digits behind the point is walked for ASCII texts of at most nine bytes. -/
namespace Go.Proofs.YtbapkiclgkddcaaDoor.Given
open Go.RowKit Go.Lib Go.Proofs.YtbapkiclgkddcaaDoor.Short Go.Proofs.YtbapkiclgkddcaaDoor.G Go.Proofs.YtbapkiclgkddcaaDoorW.PrintWords Go.Proofs.YtbapkiclgkddcaaDoorW.PrintLast Go.Proofs.YtbapkiclgkddcaaDoorW.PrintMore
set_option linter.unusedVariables false
def ratio_Parse.tail (k : Nat) (neg : Bool) (wh be : ByteArray) (sg : Int) : Option (Int × Int × Int) :=
  (ratio_digits.f wh 19).bind fun c1 => if c1 = true then
    (if sg = 47 then (ratio_digits.f be 19).bind fun c2 => (if c2 = true then (parseU wh).bind fun n => (parseU be).bind fun d => (if d = 0 then some (0, 0, 2) else ratio_lowest.f k neg 0 n d) else some (0, 0, 7))
    else if sg = 46 then (ratio_digits.f be 9).bind fun c2 => (if c2 = true then (if asciiB be.data.toList = true ∧ be.size ≤ 9 then (parseU wh).bind fun n => (parseU be).bind fun f => (bits_Mul64.f n ((10 ^ be.size : Nat) : Int)).bind fun b => (ratio_wide_plus.f k neg b.1 b.2 neg 0 f).bind fun t => ratio_lowest.f k t.1 t.2.1 t.2.2 ((10 ^ be.size : Nat) : Int) else none) else some (0, 0, 7))
    else (parseU wh).bind fun n => ratio_lowest.f k neg 0 n 1)
  else some (0, 0, 7)
def ratio_Parse.f (k : Nat) (a0 : ByteArray) : Option (Int × Int × Int) :=
  (strings_CutPrefix.f a0 (⟨#[45]⟩ : ByteArray)).bind fun b => (strings_IndexAny.f b.1 (⟨#[47, 46]⟩ : ByteArray)).bind fun at_ =>
    if 0 ≤ at_ then (if at_ < (b.1.size : Int) then (if b.1.size ≤ 140737488351232 then ratio_Parse.tail k b.2 (b.1.extract 0 at_.toNat) (b.1.extract (at_ + 1).toNat b.1.size) (bt b.1 at_) else none) else none) else ratio_Parse.tail k b.2 b.1 (⟨#[]⟩ : ByteArray) 0
theorem ratio_Parse.mono : ∀ a0 k, LeO (ratio_Parse.f k a0) (ratio_Parse.f (k + 1) a0) := by
  intro a0 k
  unfold ratio_Parse.f ratio_Parse.tail
  repeat' first
  | (with_reducible exact ratio_lowest.mono _ _ _ _ _)
  | (with_reducible exact ratio_wide_plus.mono _ _ _ _ _ _ _)
  | (with_reducible exact LeO.refl _)
  | (with_reducible exact LeO.none _)
  | (with_reducible refine LeO.ite ?_ ?_)
  | (with_reducible refine LeO.bind ?_ (fun _ => ?_))
  | exact LeO.none _
  | refine LeO.ite ?_ ?_
  | refine LeO.bind ?_ (fun _ => ?_)
set_option maxHeartbeats 8000000 in
set_option maxRecDepth 100000 in
theorem ratio_Parse.calls (k : Nat) (a0 : ByteArray) (r1 r2 r3 : Int) (w : World) (h : ratio_Parse.f k a0 = some (r1, r2, r3)) :
    Calls Tryd.prog 26 #[.string a0] w fun e w' => e = .returned (.tuple #[.agg #[.int .i64 r1, .int .i64 r2], .int .i64 r3]) ∧ Below w.heap.size w w' := by
  have hu24 := Tryd.underlying24
  have hu58 := Tryd.underlying58
  have HB := Aside0.mk (Below.refl w.heap.size w)
  unfold ratio_Parse.f at h
  replace h := Option.bind_eq_some_iff.mp h
  obtain ⟨⟨body, neg⟩, h1, h⟩ := h
  replace h := Option.bind_eq_some_iff.mp h
  obtain ⟨at_, h2, h⟩ := h
  dsimp only at h2 h
  have A1 := Aside0.mk h1
  have A2 := Aside0.mk h2
  have H := Aside0.mk h
  clear h1 h2 h
  go_enter Tryd.func26, Tryd.ntmps26
  go_upto_if 25 with (first | ((with_reducible refine gate_dst (N := 2) rfl ?_); refine box_event ?hg (N := 2) ?hd (cs := #[.int .i64 0, .int .i64 0]) (t := 24) ?hr ?_; (case hd => rfl); (case hg => rfl); (case hr => first | (go_simp; done) | (go_simp; rfl)); intro gb hg w1 hbox hb; have BK := Aside0.mk hbox; have GW := gs HB hg; replace HB := wb HB hb; clear hb hbox hg) | (go_at_call 55; (with_reducible refine (strings_CutPrefix.calls a0 (⟨#[45]⟩ : ByteArray) body neg _ A1.out).mono ?_); rintro e w2 ⟨rfl, hd⟩; replace BK := kb BK hd.below; replace HB := wb HB hd.below; clear hd) | (go_at_call 56; (with_reducible refine (strings_IndexAny.calls body (⟨#[47, 46]⟩ : ByteArray) at_ _ A2.out).mono ?_); rintro e w3 ⟨rfl, hb⟩; replace BK := kb BK hb; replace HB := wb HB hb; clear hb))
  (try simp only [Act.put, List.setIfInBounds_toArray, List.set_cons_zero, List.set_cons_succ])
  go_cut [7, 8, 9] (fun v7 v8 v9 wc => ∃ (wh be : ByteArray) (sg : Int), v7 = .string wh ∧ v8 = .string be ∧ v9 = .int .u8 sg ∧ Aside0 (ratio_Parse.tail k neg wh be sg = some (r1, r2, r3)) ∧ Aside0 (wc.heap[gb]? = some (.cells #[.int .i64 0, .int .i64 0] 24 (0, 0))) ∧ Aside0 (Below w.heap.size w wc))
  case first =>
    have h := H.out
    by_cases c : 0 ≤ at_
    · rw [if_pos c] at h
      by_cases c2 : at_ < (body.size : Int)
      · rw [if_pos c2] at h
        split at h
        · rename_i c3
          obtain ⟨p, rfl⟩ := Int.eq_ofNat_of_zero_le c
          obtain ⟨p1, hp1⟩ : ∃ p1, p1 = p + 1 := ⟨_, rfl⟩
          have H2 : Aside0 (ratio_Parse.tail k neg (body.extract 0 p) (body.extract p1 body.size) (bt body p) = some (r1, r2, r3)) := ⟨by rw [hp1]; exact h⟩
          clear h
          have f1 : decide (0 ≤ (p : Int)) = true := decide_eq_true c
          have f2 : (p : Int) ≤ (body.size : Int) := by omega
          have f3 : IntKind.i64.wrap ((p : Int) + 1) = (p1 : Int) := by rw [IntKind.wrap_i64]; omega
          have f4 : (p1 : Int) ≤ (body.size : Int) := by omega
          have f5 : (p : Int) < (body.size : Int) := c2
          have f6 : p < body.size := by omega
          clear hp1
          go_wp2_with fail
          go_big_region
          all_goals go_wp2
          go_meet
          case rel => exact ⟨_, _, _, rfl, rfl, by simp [bt, f6], H2, ⟨bq BK⟩, ⟨bw HB⟩⟩
        · cases h
      · rw [if_neg c2] at h; cases h
    · rw [if_neg c] at h
      have H2 := Aside0.mk h
      clear h
      have f1 : decide (0 ≤ at_) = false := decide_eq_false c
      go_wp2
      go_meet
      case rel => exact ⟨body, _, 0, rfl, rfl, rfl, H2, ⟨bq BK⟩, ⟨bw HB⟩⟩
  case rest =>
    clear H A1 A2
    obtain ⟨wh, be, sg, rfl, rfl, rfl, H, BK, HB⟩ := hcut
    have h := H.out
    clear H
    unfold ratio_Parse.tail at h
    replace h := Option.bind_eq_some_iff.mp h
    obtain ⟨c1, hd1, h⟩ := h
    have D1 := Aside0.mk hd1
    clear hd1
    cases c1 with
    | false =>
      rw [if_neg (by simp)] at h
      simp only [Option.some.injEq, Prod.mk.injEq] at h
      obtain ⟨rfl, rfl, rfl⟩ := h
      go_wp2_with (first | (go_at_call 57; (with_reducible refine (ratio_digits.calls wh 19 _ _ D1.out).mono ?_); rintro e w5 ⟨rfl, hb⟩; replace BK := kb BK hb; have hcr0 : w5.cell? ⟨gb, 0, none⟩ = some (.int .i64 0) := (blk_cell BK.out 0).trans rfl; have hcr1 : w5.cell? ⟨gb, 1, none⟩ = some (.int .i64 0) := (blk_cell BK.out 1).trans rfl; have hfr0 := blk_frozen BK.out 0; have hfr1 := blk_frozen BK.out 1; replace HB := wb HB hb; clear hb))
      (refine bodyPost_ret (results_ct rfl _ _ gb 24 #[.int .i64 0, .int .i64 0] (0, 0) _ rfl (by refine pe ?_; refine blk_put (cs := #[.int .i64 0, .int .i64 0]) ?_ 1 _ rfl; refine pe ?_; refine blk_put (cs := #[.int .i64 0, .int .i64 0]) ?_ 0 _ rfl; refine pe ?_; exact BK.out) Tryd.underlying24 rfl (by kernel_rfl)) rfl ?_); exact ⟨by first | rfl | (simp; done), bw HB⟩
    | true =>
      rw [if_pos rfl] at h
      by_cases s47 : sg = 47
      · subst s47
        rw [if_pos rfl] at h
        replace h := Option.bind_eq_some_iff.mp h
        obtain ⟨c2, hd2, h⟩ := h
        have D2 := Aside0.mk hd2
        clear hd2
        cases c2 with
        | false =>
          rw [if_neg (by simp)] at h
          simp only [Option.some.injEq, Prod.mk.injEq] at h
          obtain ⟨rfl, rfl, rfl⟩ := h
          go_wp2_with (first | (go_at_call 57; (with_reducible refine (ratio_digits.calls wh 19 _ _ D1.out).mono ?_); rintro e w5 ⟨rfl, hb⟩; replace BK := kb BK hb; have hcr0 : w5.cell? ⟨gb, 0, none⟩ = some (.int .i64 0) := (blk_cell BK.out 0).trans rfl; have hcr1 : w5.cell? ⟨gb, 1, none⟩ = some (.int .i64 0) := (blk_cell BK.out 1).trans rfl; have hfr0 := blk_frozen BK.out 0; have hfr1 := blk_frozen BK.out 1; replace HB := wb HB hb; clear hb) | (go_at_call 57; (with_reducible refine (ratio_digits.calls be 19 _ _ D2.out).mono ?_); rintro e w6 ⟨rfl, hb⟩; replace BK := kb BK hb; have hcr0 : w6.cell? ⟨gb, 0, none⟩ = some (.int .i64 0) := (blk_cell BK.out 0).trans rfl; have hcr1 : w6.cell? ⟨gb, 1, none⟩ = some (.int .i64 0) := (blk_cell BK.out 1).trans rfl; have hfr0 := blk_frozen BK.out 0; have hfr1 := blk_frozen BK.out 1; replace HB := wb HB hb; clear hb))
          (refine bodyPost_ret (results_ct rfl _ _ gb 24 #[.int .i64 0, .int .i64 0] (0, 0) _ rfl (by refine pe ?_; refine blk_put (cs := #[.int .i64 0, .int .i64 0]) ?_ 1 _ rfl; refine pe ?_; refine blk_put (cs := #[.int .i64 0, .int .i64 0]) ?_ 0 _ rfl; refine pe ?_; exact BK.out) Tryd.underlying24 rfl (by kernel_rfl)) rfl ?_); exact ⟨by first | rfl | (simp; done), bw HB⟩
        | true =>
          rw [if_pos rfl] at h
          replace h := Option.bind_eq_some_iff.mp h
          obtain ⟨n, hn, h⟩ := h
          replace h := Option.bind_eq_some_iff.mp h
          obtain ⟨dn, hdn, h⟩ := h
          have P1 := Aside0.mk hn
          have P2 := Aside0.mk hdn
          clear hn hdn
          by_cases z : dn = 0
          · subst z
            rw [if_pos rfl] at h
            simp only [Option.some.injEq, Prod.mk.injEq] at h
            obtain ⟨rfl, rfl, rfl⟩ := h
            go_wp2_with (first | (go_at_call 57; (with_reducible refine (ratio_digits.calls wh 19 _ _ D1.out).mono ?_); rintro e w5 ⟨rfl, hb⟩; replace BK := kb BK hb; have hcr0 : w5.cell? ⟨gb, 0, none⟩ = some (.int .i64 0) := (blk_cell BK.out 0).trans rfl; have hcr1 : w5.cell? ⟨gb, 1, none⟩ = some (.int .i64 0) := (blk_cell BK.out 1).trans rfl; have hfr0 := blk_frozen BK.out 0; have hfr1 := blk_frozen BK.out 1; replace HB := wb HB hb; clear hb) | (go_at_call 57; (with_reducible refine (ratio_digits.calls be 19 _ _ D2.out).mono ?_); rintro e w6 ⟨rfl, hb⟩; replace BK := kb BK hb; have hcr0 : w6.cell? ⟨gb, 0, none⟩ = some (.int .i64 0) := (blk_cell BK.out 0).trans rfl; have hcr1 : w6.cell? ⟨gb, 1, none⟩ = some (.int .i64 0) := (blk_cell BK.out 1).trans rfl; have hfr0 := blk_frozen BK.out 0; have hfr1 := blk_frozen BK.out 1; replace HB := wb HB hb; clear hb) | (go_at_call 58; (with_reducible refine (parseU_calls wh n _ P1.out).mono ?_); rintro e w7 ⟨rfl, hb⟩; replace BK := kb BK hb; have hcr0 : w7.cell? ⟨gb, 0, none⟩ = some (.int .i64 0) := (blk_cell BK.out 0).trans rfl; have hcr1 : w7.cell? ⟨gb, 1, none⟩ = some (.int .i64 0) := (blk_cell BK.out 1).trans rfl; have hfr0 := blk_frozen BK.out 0; have hfr1 := blk_frozen BK.out 1; replace HB := wb HB hb; clear hb) | ((with_reducible refine gate_dst (N := 12) rfl ?_); refine box_event ?hg (N := 12) ?hd (cs := #[.bool false, .int .u64 0, .int .u64 0]) (t := 58) ?hr ?_; (case hd => rfl); (case hg => rfl); (case hr => first | (go_simp; done) | (go_simp; rfl)); intro gw hg w9 hbox hb; have BW := Aside0.mk hbox; have NRW := nl BK hg; have GWw := gs HB hg; replace BK := kb BK hb; replace HB := wb HB hb; obtain ⟨hn1, hn2⟩ := n2 NRW; have hcw0 : w9.cell? ⟨gw, 0, none⟩ = some (.bool false) := (blk_cell BW.out 0).trans rfl; have hcw1 : w9.cell? ⟨gw, 1, none⟩ = some (.int .u64 0) := (blk_cell BW.out 1).trans rfl; have hcw2 : w9.cell? ⟨gw, 2, none⟩ = some (.int .u64 0) := (blk_cell BW.out 2).trans rfl; have hfw0 := blk_frozen BW.out 0; have hfw1 := blk_frozen BW.out 1; have hfw2 := blk_frozen BW.out 2; clear hb hbox hg) | (go_at_call 58; (with_reducible refine (parseU_calls be 0 _ P2.out).mono ?_); rintro e w8 ⟨rfl, hb⟩; replace BK := kb BK hb; have hcr0 : w8.cell? ⟨gb, 0, none⟩ = some (.int .i64 0) := (blk_cell BK.out 0).trans rfl; have hcr1 : w8.cell? ⟨gb, 1, none⟩ = some (.int .i64 0) := (blk_cell BK.out 1).trans rfl; have hfr0 := blk_frozen BK.out 0; have hfr1 := blk_frozen BK.out 1; replace BW := Aside0.mk (blk_below (g := gw) (o := .cells #[.bool neg, .int .u64 0, .int .u64 n] 58 (0, 0)) (by refine pe ?_; refine blk_put (cs := #[.bool neg, .int .u64 0, .int .u64 0]) ?_ 2 _ rfl; refine pe ?_; refine blk_put (cs := #[.bool neg, .int .u64 0, .int .u64 0]) ?_ 1 _ rfl; refine pe ?_; refine blk_put (cs := #[.bool false, .int .u64 0, .int .u64 0]) ?_ 0 _ rfl; refine pe ?_; exact BW.out) hb); have hcx0 : w8.cell? ⟨gw, 0, none⟩ = some (.bool neg) := (blk_cell BW.out 0).trans rfl; have hcx1 : w8.cell? ⟨gw, 1, none⟩ = some (.int .u64 0) := (blk_cell BW.out 1).trans rfl; have hcx2 : w8.cell? ⟨gw, 2, none⟩ = some (.int .u64 n) := (blk_cell BW.out 2).trans rfl; replace HB := wb HB hb; clear hb))
            (refine bodyPost_ret (results_ct rfl _ _ gb 24 #[.int .i64 0, .int .i64 0] (0, 0) _ rfl (by refine pe ?_; refine blk_put (cs := #[.int .i64 0, .int .i64 0]) ?_ 1 _ rfl; refine pe ?_; refine blk_put (cs := #[.int .i64 0, .int .i64 0]) ?_ 0 _ rfl; refine pe ?_; exact BK.out) Tryd.underlying24 rfl (by kernel_rfl)) rfl ?_); exact ⟨by first | rfl | (simp; done), bw HB⟩
          · rw [if_neg z] at h
            have L1 := Aside0.mk h
            clear h
            have z1 : ((dn : Int) == 0) = false := beq_eq_false_iff_ne.mpr (by omega)
            have z2 : ¬ (dn : Int) = 0 := by omega
            go_wp2_with (first | (go_at_call 57; (with_reducible refine (ratio_digits.calls wh 19 _ _ D1.out).mono ?_); rintro e w5 ⟨rfl, hb⟩; replace BK := kb BK hb; have hcr0 : w5.cell? ⟨gb, 0, none⟩ = some (.int .i64 0) := (blk_cell BK.out 0).trans rfl; have hcr1 : w5.cell? ⟨gb, 1, none⟩ = some (.int .i64 0) := (blk_cell BK.out 1).trans rfl; have hfr0 := blk_frozen BK.out 0; have hfr1 := blk_frozen BK.out 1; replace HB := wb HB hb; clear hb) | (go_at_call 57; (with_reducible refine (ratio_digits.calls be 19 _ _ D2.out).mono ?_); rintro e w6 ⟨rfl, hb⟩; replace BK := kb BK hb; have hcr0 : w6.cell? ⟨gb, 0, none⟩ = some (.int .i64 0) := (blk_cell BK.out 0).trans rfl; have hcr1 : w6.cell? ⟨gb, 1, none⟩ = some (.int .i64 0) := (blk_cell BK.out 1).trans rfl; have hfr0 := blk_frozen BK.out 0; have hfr1 := blk_frozen BK.out 1; replace HB := wb HB hb; clear hb) | (go_at_call 58; (with_reducible refine (parseU_calls wh n _ P1.out).mono ?_); rintro e w7 ⟨rfl, hb⟩; replace BK := kb BK hb; have hcr0 : w7.cell? ⟨gb, 0, none⟩ = some (.int .i64 0) := (blk_cell BK.out 0).trans rfl; have hcr1 : w7.cell? ⟨gb, 1, none⟩ = some (.int .i64 0) := (blk_cell BK.out 1).trans rfl; have hfr0 := blk_frozen BK.out 0; have hfr1 := blk_frozen BK.out 1; replace HB := wb HB hb; clear hb) | ((with_reducible refine gate_dst (N := 12) rfl ?_); refine box_event ?hg (N := 12) ?hd (cs := #[.bool false, .int .u64 0, .int .u64 0]) (t := 58) ?hr ?_; (case hd => rfl); (case hg => rfl); (case hr => first | (go_simp; done) | (go_simp; rfl)); intro gw hg w9 hbox hb; have BW := Aside0.mk hbox; have NRW := nl BK hg; have GWw := gs HB hg; replace BK := kb BK hb; replace HB := wb HB hb; obtain ⟨hn1, hn2⟩ := n2 NRW; have hcw0 : w9.cell? ⟨gw, 0, none⟩ = some (.bool false) := (blk_cell BW.out 0).trans rfl; have hcw1 : w9.cell? ⟨gw, 1, none⟩ = some (.int .u64 0) := (blk_cell BW.out 1).trans rfl; have hcw2 : w9.cell? ⟨gw, 2, none⟩ = some (.int .u64 0) := (blk_cell BW.out 2).trans rfl; have hfw0 := blk_frozen BW.out 0; have hfw1 := blk_frozen BW.out 1; have hfw2 := blk_frozen BW.out 2; clear hb hbox hg) | (go_at_call 58; (with_reducible refine (parseU_calls be dn _ P2.out).mono ?_); rintro e w8 ⟨rfl, hb⟩; replace BK := kb BK hb; have hcr0 : w8.cell? ⟨gb, 0, none⟩ = some (.int .i64 0) := (blk_cell BK.out 0).trans rfl; have hcr1 : w8.cell? ⟨gb, 1, none⟩ = some (.int .i64 0) := (blk_cell BK.out 1).trans rfl; have hfr0 := blk_frozen BK.out 0; have hfr1 := blk_frozen BK.out 1; replace BW := Aside0.mk (blk_below (g := gw) (o := .cells #[.bool neg, .int .u64 0, .int .u64 n] 58 (0, 0)) (by refine pe ?_; refine blk_put (cs := #[.bool neg, .int .u64 0, .int .u64 0]) ?_ 2 _ rfl; refine pe ?_; refine blk_put (cs := #[.bool neg, .int .u64 0, .int .u64 0]) ?_ 1 _ rfl; refine pe ?_; refine blk_put (cs := #[.bool false, .int .u64 0, .int .u64 0]) ?_ 0 _ rfl; refine pe ?_; exact BW.out) hb); have hcx0 : w8.cell? ⟨gw, 0, none⟩ = some (.bool neg) := (blk_cell BW.out 0).trans rfl; have hcx1 : w8.cell? ⟨gw, 1, none⟩ = some (.int .u64 0) := (blk_cell BW.out 1).trans rfl; have hcx2 : w8.cell? ⟨gw, 2, none⟩ = some (.int .u64 n) := (blk_cell BW.out 2).trans rfl; replace HB := wb HB hb; clear hb) | (go_at_call 40; (with_reducible refine (ratio_lowest.calls k neg _ _ _ r1 r2 r3 _ L1.out).mono ?_); rintro e w10 ⟨rfl, hb⟩; replace BK := kb BK hb; replace HB := wb HB hb; have hcr0 : w10.cell? ⟨gb, 0, none⟩ = some (.int .i64 0) := (blk_cell BK.out 0).trans rfl; have hcr1 : w10.cell? ⟨gb, 1, none⟩ = some (.int .i64 0) := (blk_cell BK.out 1).trans rfl; have hfr0 := blk_frozen BK.out 0; have hfr1 := blk_frozen BK.out 1; clear hb))
            (refine bodyPost_ret (results_ct rfl _ _ gb 24 #[.int .i64 r1, .int .i64 r2] (0, 0) _ rfl (by refine pe ?_; refine blk_put (cs := #[.int .i64 r1, .int .i64 0]) ?_ 1 _ rfl; refine pe ?_; refine blk_put (cs := #[.int .i64 0, .int .i64 0]) ?_ 0 _ rfl; refine pe ?_; exact BK.out) Tryd.underlying24 rfl (by kernel_rfl)) rfl ?_); exact ⟨by first | rfl | (simp; done), bw HB⟩
      · rw [if_neg s47] at h
        by_cases s46 : sg = 46
        · subst s46
          rw [if_pos rfl] at h
          replace h := Option.bind_eq_some_iff.mp h
          obtain ⟨c2, hd2, h⟩ := h
          have D2 := Aside0.mk hd2
          clear hd2
          cases c2 with
          | false =>
            rw [if_neg (by simp)] at h
            simp only [Option.some.injEq, Prod.mk.injEq] at h
            obtain ⟨rfl, rfl, rfl⟩ := h
            go_wp2_with (first | (go_at_call 57; (with_reducible refine (ratio_digits.calls wh 19 _ _ D1.out).mono ?_); rintro e w5 ⟨rfl, hb⟩; replace BK := kb BK hb; have hcr0 : w5.cell? ⟨gb, 0, none⟩ = some (.int .i64 0) := (blk_cell BK.out 0).trans rfl; have hcr1 : w5.cell? ⟨gb, 1, none⟩ = some (.int .i64 0) := (blk_cell BK.out 1).trans rfl; have hfr0 := blk_frozen BK.out 0; have hfr1 := blk_frozen BK.out 1; replace HB := wb HB hb; clear hb) | (go_at_call 57; (with_reducible refine (ratio_digits.calls be 9 _ _ D2.out).mono ?_); rintro e w6 ⟨rfl, hb⟩; replace BK := kb BK hb; have hcr0 : w6.cell? ⟨gb, 0, none⟩ = some (.int .i64 0) := (blk_cell BK.out 0).trans rfl; have hcr1 : w6.cell? ⟨gb, 1, none⟩ = some (.int .i64 0) := (blk_cell BK.out 1).trans rfl; have hfr0 := blk_frozen BK.out 0; have hfr1 := blk_frozen BK.out 1; replace HB := wb HB hb; clear hb))
            (refine bodyPost_ret (results_ct rfl _ _ gb 24 #[.int .i64 0, .int .i64 0] (0, 0) _ rfl (by refine pe ?_; refine blk_put (cs := #[.int .i64 0, .int .i64 0]) ?_ 1 _ rfl; refine pe ?_; refine blk_put (cs := #[.int .i64 0, .int .i64 0]) ?_ 0 _ rfl; refine pe ?_; exact BK.out) Tryd.underlying24 rfl (by kernel_rfl)) rfl ?_); exact ⟨by first | rfl | (simp; done), bw HB⟩
          | true =>
            rw [if_pos rfl] at h
            by_cases hc : asciiB be.data.toList = true ∧ be.size ≤ 9
            · rw [if_pos hc] at h
              replace h := Option.bind_eq_some_iff.mp h
              obtain ⟨n, hn, h⟩ := h
              replace h := Option.bind_eq_some_iff.mp h
              obtain ⟨fr, hf, h⟩ := h
              replace h := Option.bind_eq_some_iff.mp h
              obtain ⟨⟨mh, ml⟩, hm, h⟩ := h
              replace h := Option.bind_eq_some_iff.mp h
              obtain ⟨⟨ts, th, tl⟩, ht, h⟩ := h
              dsimp only at ht h
              have P1 := Aside0.mk hn
              have P2 := Aside0.mk hf
              have M1 := Aside0.mk hm
              have T1 := Aside0.mk ht
              have L1 := Aside0.mk h
              have HC := Aside0.mk hc
              clear hn hf hm ht h hc
              go_wp2_with (first | (go_at_call 57; (with_reducible refine (ratio_digits.calls wh 19 _ _ D1.out).mono ?_); rintro e w5 ⟨rfl, hb⟩; replace BK := kb BK hb; have hcr0 : w5.cell? ⟨gb, 0, none⟩ = some (.int .i64 0) := (blk_cell BK.out 0).trans rfl; have hcr1 : w5.cell? ⟨gb, 1, none⟩ = some (.int .i64 0) := (blk_cell BK.out 1).trans rfl; have hfr0 := blk_frozen BK.out 0; have hfr1 := blk_frozen BK.out 1; replace HB := wb HB hb; clear hb) | (go_at_call 57; (with_reducible refine (ratio_digits.calls be 9 _ _ D2.out).mono ?_); rintro e w6 ⟨rfl, hb⟩; replace BK := kb BK hb; have hcr0 : w6.cell? ⟨gb, 0, none⟩ = some (.int .i64 0) := (blk_cell BK.out 0).trans rfl; have hcr1 : w6.cell? ⟨gb, 1, none⟩ = some (.int .i64 0) := (blk_cell BK.out 1).trans rfl; have hfr0 := blk_frozen BK.out 0; have hfr1 := blk_frozen BK.out 1; replace HB := wb HB hb; clear hb) | (go_at_call 58; (with_reducible refine (parseU_calls wh n _ P1.out).mono ?_); rintro e w7 ⟨rfl, hb⟩; replace BK := kb BK hb; have hcr0 : w7.cell? ⟨gb, 0, none⟩ = some (.int .i64 0) := (blk_cell BK.out 0).trans rfl; have hcr1 : w7.cell? ⟨gb, 1, none⟩ = some (.int .i64 0) := (blk_cell BK.out 1).trans rfl; have hfr0 := blk_frozen BK.out 0; have hfr1 := blk_frozen BK.out 1; replace HB := wb HB hb; clear hb) | ((with_reducible refine gate_dst (N := 12) rfl ?_); refine box_event ?hg (N := 12) ?hd (cs := #[.bool false, .int .u64 0, .int .u64 0]) (t := 58) ?hr ?_; (case hd => rfl); (case hg => rfl); (case hr => first | (go_simp; done) | (go_simp; rfl)); intro gw hg w9 hbox hb; have BW := Aside0.mk hbox; have NRW := nl BK hg; have GWw := gs HB hg; replace BK := kb BK hb; replace HB := wb HB hb; obtain ⟨hn1, hn2⟩ := n2 NRW; have hcw0 : w9.cell? ⟨gw, 0, none⟩ = some (.bool false) := (blk_cell BW.out 0).trans rfl; have hcw1 : w9.cell? ⟨gw, 1, none⟩ = some (.int .u64 0) := (blk_cell BW.out 1).trans rfl; have hcw2 : w9.cell? ⟨gw, 2, none⟩ = some (.int .u64 0) := (blk_cell BW.out 2).trans rfl; have hfw0 := blk_frozen BW.out 0; have hfw1 := blk_frozen BW.out 1; have hfw2 := blk_frozen BW.out 2; clear hb hbox hg))
              obtain ⟨W, hW⟩ : ∃ W, W = (((w9.setCell ⟨gw, 0, none⟩ (.bool neg)).setCell ⟨gw, 1, none⟩ (.int .u64 0)).setCell ⟨gw, 2, none⟩ (.int .u64 n)) := ⟨_, rfl⟩
              rw [← hW]
              replace BK : Aside0 (W.heap[gb]? = some (.cells #[.int .i64 0, .int .i64 0] 24 (0, 0))) := ⟨by rw [hW]; exact bq BK⟩
              replace BW : Aside0 (W.heap[gw]? = some (.cells #[.bool neg, .int .u64 0, .int .u64 n] 58 (0, 0))) := ⟨by rw [hW]; refine pe ?_; refine blk_put (cs := #[.bool neg, .int .u64 0, .int .u64 0]) ?_ 2 _ rfl; refine pe ?_; refine blk_put (cs := #[.bool neg, .int .u64 0, .int .u64 0]) ?_ 1 _ rfl; refine pe ?_; refine blk_put (cs := #[.bool false, .int .u64 0, .int .u64 0]) ?_ 0 _ rfl; refine pe ?_; exact BW.out⟩
              replace HB : Aside0 (Below w.heap.size w W) := ⟨by rw [hW]; exact bw HB⟩
              have hws : W.heap.size = w9.heap.size := by rw [hW]; simp
              clear hW hcw0 hcw1 hcw2 hcr0 hcr1 hfr0 hfr1 hfw0 hfw1 hfw2
              go_loopg [13] be.size (fun g v wx => ∃ i D : Nat, i + g = be.size ∧ v = .int .u64 D ∧ Aside0 (D = 10 ^ i) ∧ wx = W.iter be i)
              case atStart => exact ⟨0, 1, by omega, rfl, ⟨rfl⟩, rfl⟩
              case round =>
                obtain ⟨i, D, hig, rfl, HD, rfl⟩ := hrel
                cases gk with
                | zero =>
                  obtain rfl : i = be.size := by omega
                  have hnx := fun ty => run_next_end (P := Tryd.prog) W be be.size ty (Nat.lt_irrefl _)
                  rw [hws] at hnx
                  have M2 : Aside0 (bits_Mul64.f n (D : Int) = some (mh, ml)) := ⟨by rw [HD.out]; exact M1.out⟩
                  have L2 : Aside0 (ratio_lowest.f k ts th tl (D : Int) = some (r1, r2, r3)) := ⟨by rw [HD.out]; exact L1.out⟩
                  replace BK : Aside0 ((W.iter be be.size).heap[gb]? = some (.cells #[.int .i64 0, .int .i64 0] 24 (0, 0))) := ⟨blk_alloc BK.out _⟩
                  replace BW : Aside0 ((W.iter be be.size).heap[gw]? = some (.cells #[.bool neg, .int .u64 0, .int .u64 n] 58 (0, 0))) := ⟨blk_alloc BW.out _⟩
                  replace HB : Aside0 (Below w.heap.size w (W.iter be be.size)) := ⟨below_alloc HB.out _⟩
                  go_wp2_with (first | (go_at_call 58; (with_reducible refine (parseU_calls be fr _ P2.out).mono ?_); rintro e w11 ⟨rfl, hb⟩; replace BK := kb BK hb; have hcr0 : w11.cell? ⟨gb, 0, none⟩ = some (.int .i64 0) := (blk_cell BK.out 0).trans rfl; have hcr1 : w11.cell? ⟨gb, 1, none⟩ = some (.int .i64 0) := (blk_cell BK.out 1).trans rfl; have hfr0 := blk_frozen BK.out 0; have hfr1 := blk_frozen BK.out 1; replace BW := kb BW hb; have hcx0 : w11.cell? ⟨gw, 0, none⟩ = some (.bool neg) := (blk_cell BW.out 0).trans rfl; have hcx1 : w11.cell? ⟨gw, 1, none⟩ = some (.int .u64 0) := (blk_cell BW.out 1).trans rfl; have hcx2 : w11.cell? ⟨gw, 2, none⟩ = some (.int .u64 n) := (blk_cell BW.out 2).trans rfl; replace HB := wb HB hb; clear hb) | (go_at_call 45; (with_reducible refine (bits_Mul64.calls n D mh ml _ M2.out).mono ?_); rintro e w12 ⟨rfl, hd⟩; replace BK := kb BK hd.below; replace BW := kb BW hd.below; replace HB := wb HB hd.below; have hcy0 : w12.cell? ⟨gw, 0, none⟩ = some (.bool neg) := (blk_cell BW.out 0).trans rfl; have hcy1 : w12.cell? ⟨gw, 1, none⟩ = some (.int .u64 0) := (blk_cell BW.out 1).trans rfl; have hcy2 : w12.cell? ⟨gw, 2, none⟩ = some (.int .u64 n) := (blk_cell BW.out 2).trans rfl; have hfy0 := blk_frozen BW.out 0; have hfy1 := blk_frozen BW.out 1; have hfy2 := blk_frozen BW.out 2; clear hd) | (go_at_call 59; (with_reducible refine (ratio_wide_plus.calls k neg mh ml neg 0 fr ts th tl _ T1.out).mono ?_); rintro e w13 ⟨rfl, hb⟩; replace BK := kb BK hb; replace BW := Aside0.mk (blk_below (g := gw) (o := .cells #[.bool neg, .int .u64 mh, .int .u64 ml] 58 (0, 0)) (by refine pe ?_; refine blk_put (cs := #[.bool neg, .int .u64 mh, .int .u64 n]) ?_ 2 _ rfl; refine pe ?_; refine blk_put (cs := #[.bool neg, .int .u64 0, .int .u64 n]) ?_ 1 _ rfl; refine pe ?_; exact BW.out) hb); replace HB := wb HB hb; have hcz0 : w13.cell? ⟨gw, 0, none⟩ = some (.bool neg) := (blk_cell BW.out 0).trans rfl; have hcz1 : w13.cell? ⟨gw, 1, none⟩ = some (.int .u64 mh) := (blk_cell BW.out 1).trans rfl; have hcz2 : w13.cell? ⟨gw, 2, none⟩ = some (.int .u64 ml) := (blk_cell BW.out 2).trans rfl; have hfz0 := blk_frozen BW.out 0; have hfz1 := blk_frozen BW.out 1; have hfz2 := blk_frozen BW.out 2; clear hb) | (go_at_call 40; (with_reducible refine (ratio_lowest.calls k ts th tl _ r1 r2 r3 _ L2.out).mono ?_); rintro e w14 ⟨rfl, hb⟩; replace BK := kb BK hb; replace HB := wb HB hb; have hcr0 : w14.cell? ⟨gb, 0, none⟩ = some (.int .i64 0) := (blk_cell BK.out 0).trans rfl; have hcr1 : w14.cell? ⟨gb, 1, none⟩ = some (.int .i64 0) := (blk_cell BK.out 1).trans rfl; have hfr0 := blk_frozen BK.out 0; have hfr1 := blk_frozen BK.out 1; clear hb))
                  (refine bodyPost_ret (results_ct rfl _ _ gb 24 #[.int .i64 r1, .int .i64 r2] (0, 0) _ rfl (by refine pe ?_; refine blk_put (cs := #[.int .i64 r1, .int .i64 0]) ?_ 1 _ rfl; refine pe ?_; refine blk_put (cs := #[.int .i64 0, .int .i64 0]) ?_ 0 _ rfl; refine pe ?_; exact BK.out) Tryd.underlying24 rfl (by kernel_rfl)) rfl ?_); exact ⟨by first | rfl | (simp; done), bw HB⟩
                | succ g =>
                  have hi : i < be.size := by omega
                  have hx128 : (be[i]'hi).toNat < 128 := asciiB_of HC.out.1 i _ (Lib.data_getElem? be i hi)
                  have hnx := fun ty => run_next_ascii (P := Tryd.prog) W be i ty hi hx128
                  rw [hws] at hnx
                  obtain ⟨D2, hD2⟩ : ∃ D2, D2 = D * 10 := ⟨_, rfl⟩
                  have HD2 : Aside0 (D2 = 10 ^ (i + 1) ∧ D2 < 18446744073709551616) := ⟨by
                    rw [hD2, HD.out, Nat.pow_succ]
                    exact ⟨rfl, by
                      have : 10 ^ i ≤ 10 ^ 9 := Nat.pow_le_pow_right (by omega) (by have := HC.out.2; omega)
                      omega⟩⟩
                  have w1_ : IntKind.u64.wrap ((D : Int) * 10) = (D2 : Int) := by have := HD2.out.2; rw [IntKind.wrap_u64]; omega
                  clear hD2
                  go_wp2
                  clear w1_
                  go_roundg g
                  case measure => omega
                  case rel => exact ⟨i + 1, D2, by omega, rfl, ⟨HD2.out.1⟩, rfl⟩
            · rw [if_neg hc] at h; cases h
        · rw [if_neg s46] at h
          replace h := Option.bind_eq_some_iff.mp h
          obtain ⟨n, hn, h⟩ := h
          have P1 := Aside0.mk hn
          have L1 := Aside0.mk h
          clear hn h
          have s1 : (sg == 47) = false := beq_eq_false_iff_ne.mpr s47
          have s2 : (sg == 46) = false := beq_eq_false_iff_ne.mpr s46
          go_wp2_with (first | (go_at_call 57; (with_reducible refine (ratio_digits.calls wh 19 _ _ D1.out).mono ?_); rintro e w5 ⟨rfl, hb⟩; replace BK := kb BK hb; have hcr0 : w5.cell? ⟨gb, 0, none⟩ = some (.int .i64 0) := (blk_cell BK.out 0).trans rfl; have hcr1 : w5.cell? ⟨gb, 1, none⟩ = some (.int .i64 0) := (blk_cell BK.out 1).trans rfl; have hfr0 := blk_frozen BK.out 0; have hfr1 := blk_frozen BK.out 1; replace HB := wb HB hb; clear hb) | (go_at_call 58; (with_reducible refine (parseU_calls wh n _ P1.out).mono ?_); rintro e w7 ⟨rfl, hb⟩; replace BK := kb BK hb; have hcr0 : w7.cell? ⟨gb, 0, none⟩ = some (.int .i64 0) := (blk_cell BK.out 0).trans rfl; have hcr1 : w7.cell? ⟨gb, 1, none⟩ = some (.int .i64 0) := (blk_cell BK.out 1).trans rfl; have hfr0 := blk_frozen BK.out 0; have hfr1 := blk_frozen BK.out 1; replace HB := wb HB hb; clear hb) | ((with_reducible refine gate_dst (N := 12) rfl ?_); refine box_event ?hg (N := 12) ?hd (cs := #[.bool false, .int .u64 0, .int .u64 0]) (t := 58) ?hr ?_; (case hd => rfl); (case hg => rfl); (case hr => first | (go_simp; done) | (go_simp; rfl)); intro gw hg w9 hbox hb; have BW := Aside0.mk hbox; have NRW := nl BK hg; have GWw := gs HB hg; replace BK := kb BK hb; replace HB := wb HB hb; obtain ⟨hn1, hn2⟩ := n2 NRW; have hcw0 : w9.cell? ⟨gw, 0, none⟩ = some (.bool false) := (blk_cell BW.out 0).trans rfl; have hcw1 : w9.cell? ⟨gw, 1, none⟩ = some (.int .u64 0) := (blk_cell BW.out 1).trans rfl; have hcw2 : w9.cell? ⟨gw, 2, none⟩ = some (.int .u64 0) := (blk_cell BW.out 2).trans rfl; have hfw0 := blk_frozen BW.out 0; have hfw1 := blk_frozen BW.out 1; have hfw2 := blk_frozen BW.out 2; clear hb hbox hg) | (go_at_call 40; (with_reducible refine (ratio_lowest.calls k neg _ _ _ r1 r2 r3 _ L1.out).mono ?_); rintro e w10 ⟨rfl, hb⟩; replace BK := kb BK hb; replace HB := wb HB hb; have hcr0 : w10.cell? ⟨gb, 0, none⟩ = some (.int .i64 0) := (blk_cell BK.out 0).trans rfl; have hcr1 : w10.cell? ⟨gb, 1, none⟩ = some (.int .i64 0) := (blk_cell BK.out 1).trans rfl; have hfr0 := blk_frozen BK.out 0; have hfr1 := blk_frozen BK.out 1; clear hb))
          (refine bodyPost_ret (results_ct rfl _ _ gb 24 #[.int .i64 r1, .int .i64 r2] (0, 0) _ rfl (by refine pe ?_; refine blk_put (cs := #[.int .i64 r1, .int .i64 0]) ?_ 1 _ rfl; refine pe ?_; refine blk_put (cs := #[.int .i64 0, .int .i64 0]) ?_ 0 _ rfl; refine pe ?_; exact BK.out) Tryd.underlying24 rfl (by kernel_rfl)) rfl ?_); exact ⟨by first | rfl | (simp; done), bw HB⟩
end Go.Proofs.YtbapkiclgkddcaaDoor.Given

/- ratio.Apportion: the ways out with an error (too many weights, a number out of range, no weight above 0). -/
namespace Go.Proofs.YtbapkiclgkddcaaDoor.Given
open Go.RowKit Go.Lib Go.Sort Go.Proofs.YtbapkiclgkddcaaDoor.Short Go.Proofs.YtbapkiclgkddcaaDoorW.PrintWords Go.Proofs.YtbapkiclgkddcaaDoorW.PrintLast Go.Proofs.YtbapkiclgkddcaaDoorW.PrintMore
set_option linter.unusedVariables false
theorem rd_get (l : List Int) (k : Nat) (hk : k < l.length) : rd l k = l[k] := by simp [rd, List.getElem?_eq_getElem hk]
set_option maxHeartbeats 1000000 in
set_option maxRecDepth 100000 in
theorem ap_long (a0 : Int) (A1 : Option Addr) (c1 : Nat) (l1 : List Int) (w : World) (hr1 : Kd.C (Kd.int .i64) w A1 l1.length l1) (hc1 : l1.length ≤ c1) (hl : 100 < l1.length)  :
    Calls Tryd.prog 38 #[.int .i64 a0, .slice A1 l1.length c1] w fun e w' => ∃ v0_ : Value, e = .returned (.tuple #[v0_, .int .i64 3]) ∧ Kd.R (Kd.int .i64) 3 w' w.heap.size (fun _ => True) v0_ [] ∧ Below w.heap.size w w' := by
  have HB := Aside0.mk (Below.refl w.heap.size w); have HR := Aside0.mk hr1; have HL := Aside0.mk hl; have c100 : decide (100 < (l1.length : Int)) = true := decide_eq_true (by omega); have c100b : decide (100 < l1.length) = true := decide_eq_true (by omega); clear hr1 hl; (go_enter Tryd.func38, Tryd.ntmps38); go_wp2_with (first | ((with_reducible refine gate_dst (N := 2) rfl ?_); refine box_event ?hg (N := 2) ?hd (cs := #[.int .i64 a0]) (t := 3) ?hr ?_; (case hd => rfl); (case hg => rfl); (case hr => first | (go_simp; done) | (go_simp; rfl)); intro gT hg w3 hbox hb; have BKT := Aside0.mk hbox; have GWT := gs HB hg; replace HB := wb HB hb; clear hb hbox hg) | ((with_reducible refine gate_dst (N := 3) rfl ?_); refine box_event ?hg (N := 3) ?hd (cs := #[.slice A1 l1.length c1]) (t := 22) ?hr ?_; (case hd => rfl); (case hg => rfl); (case hr => first | (go_simp; done) | (go_simp; rfl)); intro gW hg w4 hbox hb; have BKW := Aside0.mk hbox; have GWW := gs HB hg; have NTW := nl BKT hg; replace BKT := kb BKT hb; replace HB := wb HB hb; clear hb hbox hg; have hcT : w4.cell? ⟨gT, 0, none⟩ = some (.int .i64 a0) := (blk_cell BKT.out 0).trans rfl; have hcW : w4.cell? ⟨gW, 0, none⟩ = some (.slice A1 l1.length c1) := (blk_cell BKW.out 0).trans rfl) | ((with_reducible refine gate_dst (N := 6) rfl ?_); refine box_event ?hg (N := 6) ?hd (cs := #[.int .i64 0]) (t := 3) ?hr ?_; (case hd => rfl); (case hg => rfl); (case hr => first | (go_simp; done) | (go_simp; rfl)); intro gA hg w5 hbox hb; have BKA := Aside0.mk hbox; have GWA := gs HB hg; have NTA := nl BKT hg; have NWA := nl BKW hg; replace BKT := kb BKT hb; replace BKW := kb BKW hb; replace HB := wb HB hb; clear hb hbox hg hcT hcW; have hcT : w5.cell? ⟨gT, 0, none⟩ = some (.int .i64 a0) := (blk_cell BKT.out 0).trans rfl; have hcW : w5.cell? ⟨gW, 0, none⟩ = some (.slice A1 l1.length c1) := (blk_cell BKW.out 0).trans rfl; have hcA : w5.cell? ⟨gA, 0, none⟩ = some (.int .i64 0) := (blk_cell BKA.out 0).trans rfl; have hfA := blk_frozen BKA.out 0; obtain ⟨hnTA, hnAT⟩ := n2 NTA; obtain ⟨hnWA, hnAW⟩ := n2 NWA))
  go_ret2
  exact ⟨_, rfl, Kd.R_nil _ _ _ _ _, bw HB⟩
set_option maxHeartbeats 1000000 in
set_option maxRecDepth 100000 in
theorem ap_zero (a0 : Int) (A1 : Option Addr) (c1 : Nat) (l1 : List Int) (w : World) (hr1 : Kd.C (Kd.int .i64) w A1 l1.length l1) (hc1 : l1.length ≤ c1) (hl : l1.length ≤ 100) (hgood : ∀ x ∈ a0 :: l1, bad x = false) (hS : isum l1 = 0) :
    Calls Tryd.prog 38 #[.int .i64 a0, .slice A1 l1.length c1] w fun e w' => ∃ v0_ : Value, e = .returned (.tuple #[v0_, .int .i64 10]) ∧ Kd.R (Kd.int .i64) 3 w' w.heap.size (fun _ => True) v0_ [] ∧ Below w.heap.size w w' := by
  have HB := Aside0.mk (Below.refl w.heap.size w); have HR := Aside0.mk hr1; have HL := Aside0.mk hl; have HG := Aside0.mk hgood; have c100 : decide (100 < (l1.length : Int)) = false := decide_eq_false (by omega); have c100b : decide (100 < l1.length) = false := decide_eq_false (by omega); clear hr1 hl hgood; have HS := Aside0.mk hS; clear hS; (go_enter Tryd.func38, Tryd.ntmps38); go_wp2_with (first | ((with_reducible refine gate_dst (N := 2) rfl ?_); refine box_event ?hg (N := 2) ?hd (cs := #[.int .i64 a0]) (t := 3) ?hr ?_; (case hd => rfl); (case hg => rfl); (case hr => first | (go_simp; done) | (go_simp; rfl)); intro gT hg w3 hbox hb; have BKT := Aside0.mk hbox; have GWT := gs HB hg; replace HB := wb HB hb; clear hb hbox hg) | ((with_reducible refine gate_dst (N := 3) rfl ?_); refine box_event ?hg (N := 3) ?hd (cs := #[.slice A1 l1.length c1]) (t := 22) ?hr ?_; (case hd => rfl); (case hg => rfl); (case hr => first | (go_simp; done) | (go_simp; rfl)); intro gW hg w4 hbox hb; have BKW := Aside0.mk hbox; have GWW := gs HB hg; have NTW := nl BKT hg; replace BKT := kb BKT hb; replace HB := wb HB hb; clear hb hbox hg; have hcT : w4.cell? ⟨gT, 0, none⟩ = some (.int .i64 a0) := (blk_cell BKT.out 0).trans rfl; have hcW : w4.cell? ⟨gW, 0, none⟩ = some (.slice A1 l1.length c1) := (blk_cell BKW.out 0).trans rfl) | ((with_reducible refine gate_dst (N := 6) rfl ?_); refine box_event ?hg (N := 6) ?hd (cs := #[.int .i64 0]) (t := 3) ?hr ?_; (case hd => rfl); (case hg => rfl); (case hr => first | (go_simp; done) | (go_simp; rfl)); intro gA hg w5 hbox hb; have BKA := Aside0.mk hbox; have GWA := gs HB hg; have NTA := nl BKT hg; have NWA := nl BKW hg; replace BKT := kb BKT hb; replace BKW := kb BKW hb; replace HB := wb HB hb; clear hb hbox hg hcT hcW; have hcT : w5.cell? ⟨gT, 0, none⟩ = some (.int .i64 a0) := (blk_cell BKT.out 0).trans rfl; have hcW : w5.cell? ⟨gW, 0, none⟩ = some (.slice A1 l1.length c1) := (blk_cell BKW.out 0).trans rfl; have hcA : w5.cell? ⟨gA, 0, none⟩ = some (.int .i64 0) := (blk_cell BKA.out 0).trans rfl; have hfA := blk_frozen BKA.out 0; obtain ⟨hnTA, hnAT⟩ := n2 NTA; obtain ⟨hnWA, hnAW⟩ := n2 NWA) | ((with_reducible refine gate_dst (N := 20) rfl ?_); refine Kd.R_lit (Kd.int .i64) _ 3 ?hg (N := 20) ?hd (xs := ([a0] : List Int)) (inner := [.int .i64 a0]) (ok := fun _ => True) (okp := fun _ => True) ?hr ?hp (fun _ hk => hk) trivial (Below.refl _ _) (Nat.le_refl _) (by simp) ?_; (case hd => rfl); (case hg => rfl); (case hr => first | (go_simp; done) | (go_simp; rfl)); (case hp => exact (Reps.one (show Kd.M (Kd.int .i64) _ _ _ a0 [.int .i64 a0] from rfl) (Reps.none _ _))); intro v6 w6 ho hb hg_ hnew_; have HO := Aside0.mk (Kd.R_lower ho (below_size (bw HB))); have NOT := nb BKT hnew_; have NOW := nb BKW hnew_; have NOA := nb (g := gA) (o := .cells #[.int .i64 0] 3 (0, 0)) (W := w5.setCell ⟨gA, 0, none⟩ (.int .i64 0)) ⟨by refine blk_put (cs := #[.int .i64 0]) ?_ 0 _ rfl; exact BKA.out⟩ hnew_; replace BKA := Aside0.mk (blk_below (g := gA) (o := .cells #[.int .i64 0] 3 (0, 0)) (by refine pe ?_; refine blk_put (cs := #[.int .i64 0]) ?_ 0 _ rfl; exact BKA.out) hb); replace BKT := kb BKT hb; replace BKW := kb BKW hb; replace HB := wb HB hb; clear hb ho hg_ hnew_ hcT hcW hcA hfA; have hcW : w6.cell? ⟨gW, 0, none⟩ = some (.slice A1 l1.length c1) := (blk_cell BKW.out 0).trans rfl) | ((with_reducible refine gate_builtin (b := .append) (xs := #[.tmp 20, .tmp 21]) rfl ?_); at_builtin; refine Kd.R_append_rows (Kd.int .i64) w.heap.size rfl (.tmp 20) (.tmp 21) 22 3 (.int .i64 0) 8 rfl Tryd.underlying22 infoI rfl (by decide) (by omega) v6 ([a0] : List Int) l1 _ _ _ (fun _ => True) (fun _ => False) rfl rfl ?aO ?aR (fun _ _ h => h) (fun _ h => h.elim) (fun _ _ => trivial) (Below.refl _ _) ?aS ?aL ?_; (case aR => exact Kd.C_below HR.out (bw HB)); (case aO => exact HO.out); (case aS => exact below_size (bw HB)); (case aL => have := HL.out; simp; omega); have LTA := lt7 (W1 := w6) BKA; intro v7 w7 ho hb hg hat; replace BKT := kg BKT hg NOT; replace BKW := kg BKW hg NOW; replace BKA := kg BKA hg NOA; replace HB := Aside0.mk (pw_below_grown (bw HB) _ (below_size (bw HB)) hg (Kd.R_base HO.out)); have NOA7 := n7 NOA hg hat LTA; clear HO; have HO := Aside0.mk ho; clear ho hb hg hat hcW NOT NOW NOA LTA; obtain ⟨Ao, co, eo⟩ := Kd.R_slice HO.out; subst eo; obtain ⟨ad, hAo, hcells⟩ := cells_read (Kd.R_reads' HO.out).2.2 (by simp); subst hAo; have NAD : Aside0 (ad.block ≠ gA) := ⟨fun h => NOA7.out (by simp [Value.ownBlock, h])⟩; have HC7 := Aside0.mk hcells; clear hcells HO NOA7))
  go_loopg [8, 24] (l1.length + 1) (fun gk v8 v24 wr => ∃ (i : Nat) (z : Value), v8 = z ∧ v24 = .int .i64 i ∧ i ≤ l1.length + 1 ∧ l1.length + 1 - i ≤ gk ∧ Aside0 (wr.heap[gA]? = some (.cells #[.int .i64 (isum ((a0 :: l1).take i))] 3 (0, 0))) ∧ Aside0 (wr.heap[gT]? = some (.cells #[.int .i64 a0] 3 (0, 0))) ∧ Aside0 (wr.heap[gW]? = some (.cells #[.slice A1 l1.length c1] 22 (0, 0))) ∧ Aside0 (∀ i : Nat, i < ([a0] ++ l1).length → wr.cell? (ad.add i) = some (.int .i64 (rd ([a0] ++ l1) i))) ∧ Aside0 (Below w.heap.size w wr))
  case atStart => exact ⟨0, _, rfl, by go_num, by omega, by omega, BKA, BKT, BKW, HC7, HB⟩
  case round =>
    obtain ⟨i, z, rfl, rfl, hi, hgk, BKA, BKT, BKW, HCi, HB⟩ := hrel
    by_cases hlt : i < l1.length + 1
    · have hlz : (i : Int) < (l1.length : Int) + 1 := by omega
      have hlzb : decide ((i : Int) < (l1.length : Int) + 1) = true := decide_eq_true hlz; have hci := HCi.out i (by simpa using hlt); (have i101 : (i : Int) ≤ 101 := by have := HL.out; omega); have hxb := rd_good ([a0] ++ l1) HG.out i (by simpa using hlt); have hsb := isum_take_bd ([a0] ++ l1) HG.out i; have hsn := isum_take ([a0] ++ l1) i (by simpa using hlt); rw [show (a0 :: l1) = [a0] ++ l1 from rfl] at BKA; obtain ⟨x, hx⟩ : ∃ x, rd ([a0] ++ l1) i = x := ⟨_, rfl⟩; obtain ⟨s, hs⟩ : ∃ s, isum (([a0] ++ l1).take i) = s := ⟨_, rfl⟩; rw [hx] at hci hxb hsn; rw [hs] at BKA hsb hsn; have HSN := Aside0.mk hsn; clear hs hsn; clear hx; have x0 : decide (x < 0) = false := decide_eq_false (by omega); have x1 : decide (1073741824 < x) = false := decide_eq_false (by omega); obtain ⟨xb0, xb1⟩ := hxb; have sb0 := hsb.1; (have sb1 : s ≤ 1073741824 * 101 := by have := hsb.2; have := HL.out; simp only [List.length_append, List.length_cons, List.length_nil] at hsb; omega); clear hsb; have hcA : wr.cell? ⟨gA, 0, none⟩ = some (.int .i64 s) := (blk_cell BKA.out 0).trans rfl; have hfA := blk_frozen BKA.out 0; go_wp2
      go_roundg (l1.length - i)
      case measure => omega
      case rel => exact ⟨i + 1, _, rfl, by go_num, by omega, by omega, ⟨by rw [show (a0 :: l1) = [a0] ++ l1 from rfl, HSN.out]; exact blk_put (cs := #[.int .i64 s]) BKA.out 0 _ rfl⟩, ⟨bq BKT⟩, ⟨bq BKW⟩, ⟨fun j hj => (cell_far (p := ⟨gA, 0, none⟩) (a := ad.add j) (by rw [show (ad.add j).block = ad.block from by unfold Addr.add; split <;> rfl]; exact NAD.out) _).trans (HCi.out j hj)⟩, ⟨bw HB⟩⟩
    · have hlz : ¬ (i : Int) < (l1.length : Int) + 1 := by omega
      have hlzb : decide ((i : Int) < (l1.length : Int) + 1) = false := decide_eq_false hlz; (have hil : i = (a0 :: l1).length := by simp only [List.length_cons]; omega); rw [hil, List.take_length] at BKA; clear hil HCi NAD HC7; simp only [isum] at BKA; rw [HS.out, Int.add_zero] at BKA; have ha := HG.out a0 List.mem_cons_self; simp only [bad, Bool.or_eq_false_iff, decide_eq_false_iff_not] at ha; (have a1 : 0 ≤ a0 := by omega); (have a2 : a0 ≤ 1073741824 := by omega); have hsub : a0 - a0 = 0 := Int.sub_self a0; clear ha; have hcA : wr.cell? ⟨gA, 0, none⟩ = some (.int .i64 a0) := (blk_cell BKA.out 0).trans rfl; have hfA := blk_frozen BKA.out 0; have hcT : wr.cell? ⟨gT, 0, none⟩ = some (.int .i64 a0) := (blk_cell BKT.out 0).trans rfl; have hcW : wr.cell? ⟨gW, 0, none⟩ = some (.slice A1 l1.length c1) := (blk_cell BKW.out 0).trans rfl; go_wp2
      go_ret2
      exact ⟨_, rfl, Kd.R_nil _ _ _ _ _, bw HB⟩
set_option maxHeartbeats 1000000 in
set_option maxRecDepth 100000 in
theorem ap_bad (a0 : Int) (A1 : Option Addr) (c1 : Nat) (l1 : List Int) (w : World) (hr1 : Kd.C (Kd.int .i64) w A1 l1.length l1) (hc1 : l1.length ≤ c1) (hl : l1.length ≤ 100) (hgood : ∃ x ∈ a0 :: l1, bad x = true) :
    Calls Tryd.prog 38 #[.int .i64 a0, .slice A1 l1.length c1] w fun e w' => ∃ v0_ : Value, e = .returned (.tuple #[v0_, .int .i64 2]) ∧ Kd.R (Kd.int .i64) 3 w' w.heap.size (fun _ => True) v0_ [] ∧ Below w.heap.size w w' := by
  have HB := Aside0.mk (Below.refl w.heap.size w); have HR := Aside0.mk hr1; have HL := Aside0.mk hl; have HG := Aside0.mk hgood; have c100 : decide (100 < (l1.length : Int)) = false := decide_eq_false (by omega); have c100b : decide (100 < l1.length) = false := decide_eq_false (by omega); clear hr1 hl hgood; (go_enter Tryd.func38, Tryd.ntmps38); go_wp2_with (first | ((with_reducible refine gate_dst (N := 2) rfl ?_); refine box_event ?hg (N := 2) ?hd (cs := #[.int .i64 a0]) (t := 3) ?hr ?_; (case hd => rfl); (case hg => rfl); (case hr => first | (go_simp; done) | (go_simp; rfl)); intro gT hg w3 hbox hb; have BKT := Aside0.mk hbox; have GWT := gs HB hg; replace HB := wb HB hb; clear hb hbox hg) | ((with_reducible refine gate_dst (N := 3) rfl ?_); refine box_event ?hg (N := 3) ?hd (cs := #[.slice A1 l1.length c1]) (t := 22) ?hr ?_; (case hd => rfl); (case hg => rfl); (case hr => first | (go_simp; done) | (go_simp; rfl)); intro gW hg w4 hbox hb; have BKW := Aside0.mk hbox; have GWW := gs HB hg; have NTW := nl BKT hg; replace BKT := kb BKT hb; replace HB := wb HB hb; clear hb hbox hg; have hcT : w4.cell? ⟨gT, 0, none⟩ = some (.int .i64 a0) := (blk_cell BKT.out 0).trans rfl; have hcW : w4.cell? ⟨gW, 0, none⟩ = some (.slice A1 l1.length c1) := (blk_cell BKW.out 0).trans rfl) | ((with_reducible refine gate_dst (N := 6) rfl ?_); refine box_event ?hg (N := 6) ?hd (cs := #[.int .i64 0]) (t := 3) ?hr ?_; (case hd => rfl); (case hg => rfl); (case hr => first | (go_simp; done) | (go_simp; rfl)); intro gA hg w5 hbox hb; have BKA := Aside0.mk hbox; have GWA := gs HB hg; have NTA := nl BKT hg; have NWA := nl BKW hg; replace BKT := kb BKT hb; replace BKW := kb BKW hb; replace HB := wb HB hb; clear hb hbox hg hcT hcW; have hcT : w5.cell? ⟨gT, 0, none⟩ = some (.int .i64 a0) := (blk_cell BKT.out 0).trans rfl; have hcW : w5.cell? ⟨gW, 0, none⟩ = some (.slice A1 l1.length c1) := (blk_cell BKW.out 0).trans rfl; have hcA : w5.cell? ⟨gA, 0, none⟩ = some (.int .i64 0) := (blk_cell BKA.out 0).trans rfl; have hfA := blk_frozen BKA.out 0; obtain ⟨hnTA, hnAT⟩ := n2 NTA; obtain ⟨hnWA, hnAW⟩ := n2 NWA) | ((with_reducible refine gate_dst (N := 20) rfl ?_); refine Kd.R_lit (Kd.int .i64) _ 3 ?hg (N := 20) ?hd (xs := ([a0] : List Int)) (inner := [.int .i64 a0]) (ok := fun _ => True) (okp := fun _ => True) ?hr ?hp (fun _ hk => hk) trivial (Below.refl _ _) (Nat.le_refl _) (by simp) ?_; (case hd => rfl); (case hg => rfl); (case hr => first | (go_simp; done) | (go_simp; rfl)); (case hp => exact (Reps.one (show Kd.M (Kd.int .i64) _ _ _ a0 [.int .i64 a0] from rfl) (Reps.none _ _))); intro v6 w6 ho hb hg_ hnew_; have HO := Aside0.mk (Kd.R_lower ho (below_size (bw HB))); have NOT := nb BKT hnew_; have NOW := nb BKW hnew_; have NOA := nb (g := gA) (o := .cells #[.int .i64 0] 3 (0, 0)) (W := w5.setCell ⟨gA, 0, none⟩ (.int .i64 0)) ⟨by refine blk_put (cs := #[.int .i64 0]) ?_ 0 _ rfl; exact BKA.out⟩ hnew_; replace BKA := Aside0.mk (blk_below (g := gA) (o := .cells #[.int .i64 0] 3 (0, 0)) (by refine pe ?_; refine blk_put (cs := #[.int .i64 0]) ?_ 0 _ rfl; exact BKA.out) hb); replace BKT := kb BKT hb; replace BKW := kb BKW hb; replace HB := wb HB hb; clear hb ho hg_ hnew_ hcT hcW hcA hfA; have hcW : w6.cell? ⟨gW, 0, none⟩ = some (.slice A1 l1.length c1) := (blk_cell BKW.out 0).trans rfl) | ((with_reducible refine gate_builtin (b := .append) (xs := #[.tmp 20, .tmp 21]) rfl ?_); at_builtin; refine Kd.R_append_rows (Kd.int .i64) w.heap.size rfl (.tmp 20) (.tmp 21) 22 3 (.int .i64 0) 8 rfl Tryd.underlying22 infoI rfl (by decide) (by omega) v6 ([a0] : List Int) l1 _ _ _ (fun _ => True) (fun _ => False) rfl rfl ?aO ?aR (fun _ _ h => h) (fun _ h => h.elim) (fun _ _ => trivial) (Below.refl _ _) ?aS ?aL ?_; (case aR => exact Kd.C_below HR.out (bw HB)); (case aO => exact HO.out); (case aS => exact below_size (bw HB)); (case aL => have := HL.out; simp; omega); have LTA := lt7 (W1 := w6) BKA; intro v7 w7 ho hb hg hat; replace BKT := kg BKT hg NOT; replace BKW := kg BKW hg NOW; replace BKA := kg BKA hg NOA; replace HB := Aside0.mk (pw_below_grown (bw HB) _ (below_size (bw HB)) hg (Kd.R_base HO.out)); have NOA7 := n7 NOA hg hat LTA; clear HO; have HO := Aside0.mk ho; clear ho hb hg hat hcW NOT NOW NOA LTA; obtain ⟨Ao, co, eo⟩ := Kd.R_slice HO.out; subst eo; obtain ⟨ad, hAo, hcells⟩ := cells_read (Kd.R_reads' HO.out).2.2 (by simp); subst hAo; have NAD : Aside0 (ad.block ≠ gA) := ⟨fun h => NOA7.out (by simp [Value.ownBlock, h])⟩; have HC7 := Aside0.mk hcells; clear hcells HO NOA7))
  go_loopg [8, 24] (l1.length + 1) (fun gk v8 v24 wr => ∃ (i : Nat) (z : Value), v8 = z ∧ v24 = .int .i64 i ∧ i ≤ l1.length + 1 ∧ l1.length + 1 - i ≤ gk ∧ Aside0 (∀ x ∈ (a0 :: l1).take i, bad x = false) ∧ Aside0 (wr.heap[gA]? = some (.cells #[.int .i64 (isum ((a0 :: l1).take i))] 3 (0, 0))) ∧ Aside0 (wr.heap[gT]? = some (.cells #[.int .i64 a0] 3 (0, 0))) ∧ Aside0 (wr.heap[gW]? = some (.cells #[.slice A1 l1.length c1] 22 (0, 0))) ∧ Aside0 (∀ i : Nat, i < ([a0] ++ l1).length → wr.cell? (ad.add i) = some (.int .i64 (rd ([a0] ++ l1) i))) ∧ Aside0 (Below w.heap.size w wr))
  case atStart => exact ⟨0, _, rfl, by go_num, by omega, by omega, ⟨fun x hx => by simp at hx⟩, BKA, BKT, BKW, HC7, HB⟩
  case round =>
    obtain ⟨i, z, rfl, rfl, hi, hgk, HP, BKA, BKT, BKW, HCi, HB⟩ := hrel
    by_cases hlt : i < l1.length + 1
    · have hlz : (i : Int) < (l1.length : Int) + 1 := by omega
      have hlzb : decide ((i : Int) < (l1.length : Int) + 1) = true := decide_eq_true hlz; have hci := HCi.out i (by simpa using hlt); (have i101 : (i : Int) ≤ 101 := by have := HL.out; omega); have hsb := isum_bd (([a0] ++ l1).take i) HP.out; have hsn := isum_take ([a0] ++ l1) i (by simpa using hlt); rw [show (a0 :: l1) = [a0] ++ l1 from rfl] at BKA; obtain ⟨x, hx⟩ : ∃ x, rd ([a0] ++ l1) i = x := ⟨_, rfl⟩; obtain ⟨s, hs⟩ : ∃ s, isum (([a0] ++ l1).take i) = s := ⟨_, rfl⟩; rw [hx] at hci hsn; rw [hs] at BKA hsb hsn; have HSN := Aside0.mk hsn; clear hs hsn; (have hln : (([a0] ++ l1).take i).length ≤ 101 := by have := List.length_take_le i ([a0] ++ l1); have := HL.out; simp only [List.length_append, List.length_cons, List.length_nil] at *; omega); (have hsb2 : 0 ≤ s ∧ s ≤ 1073741824 * 101 := by omega); clear hsb; have HX := Aside0.mk hx; clear hx; have ilt : i < ([a0] ++ l1).length := by simpa using hlt
      by_cases hb0 : x < 0
      · have x0 : decide (x < 0) = true := decide_eq_true hb0
        have HI := Aside0.mk ilt; clear ilt hln hsb2; go_wp2
        go_ret2
        exact ⟨_, rfl, Kd.R_nil _ _ _ _ _, bw HB⟩
      · by_cases hb1 : 1073741824 < x
        · have x0 : decide (x < 0) = false := decide_eq_false hb0
          have x1 : decide (1073741824 < x) = true := decide_eq_true hb1; have HI := Aside0.mk ilt; clear ilt hln hsb2; go_wp2
          go_ret2
          exact ⟨_, rfl, Kd.R_nil _ _ _ _ _, bw HB⟩
        · have hxb : 0 ≤ x ∧ x ≤ 1073741824 := by omega
          have HP1 : Aside0 (∀ y ∈ (a0 :: l1).take (i + 1), bad y = false) := ⟨fun y hy => by
            rw [show (a0 :: l1) = [a0] ++ l1 from rfl, List.take_succ_eq_append_getElem ilt, List.mem_append] at hy; rcases hy with hy | hy
            · exact HP.out y hy
            · have : y = x := by rw [← HX.out, rd_get _ _ ilt]; exact List.mem_singleton.1 hy
              subst this; simp only [bad, Bool.or_eq_false_iff, decide_eq_false_iff_not]; omega⟩
          have hsb := hsb2; clear hsb2 hln HX ilt hb0 hb1 HP; have x0 : decide (x < 0) = false := decide_eq_false (by omega); have x1 : decide (1073741824 < x) = false := decide_eq_false (by omega); obtain ⟨xb0, xb1⟩ := hxb; have sb0 := hsb.1; (have sb1 : s ≤ 1073741824 * 101 := by exact hsb.2); clear hsb; have hcA : wr.cell? ⟨gA, 0, none⟩ = some (.int .i64 s) := (blk_cell BKA.out 0).trans rfl; have hfA := blk_frozen BKA.out 0; go_wp2
          go_roundg (l1.length - i)
          case measure => omega
          case rel => exact ⟨i + 1, _, rfl, by go_num, by omega, by omega, HP1, ⟨by rw [show (a0 :: l1) = [a0] ++ l1 from rfl, HSN.out]; exact blk_put (cs := #[.int .i64 s]) BKA.out 0 _ rfl⟩, ⟨bq BKT⟩, ⟨bq BKW⟩, ⟨fun j hj => (cell_far (p := ⟨gA, 0, none⟩) (a := ad.add j) (by rw [show (ad.add j).block = ad.block from by unfold Addr.add; split <;> rfl]; exact NAD.out) _).trans (HCi.out j hj)⟩, ⟨bw HB⟩⟩
    · exfalso
      (have hil : (a0 :: l1).length ≤ i := by simp only [List.length_cons]; omega); obtain ⟨x, hx, hb⟩ := HG.out; have := HP.out x (by rw [List.take_of_length_le hil]; exact hx); rw [this] at hb
      cases hb
end Go.Proofs.YtbapkiclgkddcaaDoor.Given

/- ratio.Apportion: its contract (for every list). -/
namespace Go.Proofs.YtbapkiclgkddcaaDoor.Given
open Go.RowKit Go.Lib Go.Proofs.YtbapkiclgkddcaaDoor.Short Go.Proofs.YtbapkiclgkddcaaDoorW.PrintWords Go.Proofs.YtbapkiclgkddcaaDoorW.PrintLast Go.Proofs.YtbapkiclgkddcaaDoorW.PrintMore
set_option linter.unusedVariables false
def ratio_Apportion.f (a0 : Int) (l1 : List Int) : Option (List Int × Int) :=
  if 100 < l1.length then some ([], 3) else if (a0 :: l1).all (fun x => !bad x) = true then (if isum l1 = 0 then some ([], 10) else some (apOut a0 l1, 0)) else some ([], 2)
theorem ratio_Apportion.calls (a0 : Int) (A1 : Option Addr) (c1 : Nat) (l1 : List Int) (r1 : List Int) (r2 : Int) (w : World) (hr1 : Kd.C (Kd.int .i64) w A1 l1.length l1) (hc1 : l1.length ≤ c1) (h : ratio_Apportion.f a0 l1 = some (r1, r2)) :
    Calls Tryd.prog 38 #[.int .i64 a0, .slice A1 l1.length c1] w fun e w' => ∃ v0_ : Value, e = .returned (.tuple #[v0_, .int .i64 r2]) ∧ Kd.R (Kd.int .i64) 3 w' w.heap.size (fun _ => True) v0_ r1 ∧ Below w.heap.size w w' := by
  unfold ratio_Apportion.f at h
  by_cases hl : 100 < l1.length
  · rw [if_pos hl] at h
    simp only [Option.some.injEq, Prod.mk.injEq] at h; obtain ⟨rfl, rfl⟩ := h; exact ap_long a0 A1 c1 l1 w hr1 hc1 hl
  rw [if_neg hl] at h
  by_cases hg : (a0 :: l1).all (fun x => !bad x) = true
  · rw [if_pos hg] at h
    have hg2 : ∀ x ∈ a0 :: l1, bad x = false := fun x hx => by simpa using List.all_eq_true.1 hg x hx
    by_cases hS : isum l1 = 0
    · rw [if_pos hS] at h
      simp only [Option.some.injEq, Prod.mk.injEq] at h; obtain ⟨rfl, rfl⟩ := h; exact ap_zero a0 A1 c1 l1 w hr1 hc1 (by omega) hg2 hS
    · rw [if_neg hS] at h
      simp only [Option.some.injEq, Prod.mk.injEq] at h; obtain ⟨rfl, rfl⟩ := h
      have h0 : 0 < l1.length := by
        cases l1 with
        | nil => exact absurd rfl hS
        | cons y t => exact Nat.succ_pos _
      obtain ⟨adw, rfl, hcw⟩ := cells_read hr1 h0; exact ap_first a0 adw c1 l1 w hr1 hcw hc1 (by omega) (by omega) hg2 hS
  · rw [if_neg hg] at h
    simp only [Option.some.injEq, Prod.mk.injEq] at h; obtain ⟨rfl, rfl⟩ := h; refine ap_bad a0 A1 c1 l1 w hr1 hc1 (by omega) ?_; rw [Bool.not_eq_true, List.all_eq_false] at hg; obtain ⟨x, hx, hb⟩ := hg; exact ⟨x, hx, by simpa using hb⟩
end Go.Proofs.YtbapkiclgkddcaaDoor.Given

-- Printed by gp.py (a program of this session's own, over the kit's printer) out of the translation; Lean checks it.
namespace Go.Proofs.YtbapkiclgkddcaaDoor.G
open Go.Proofs.YtbapkiclgkddcaaDoor.Given Go.Proofs.YtbapkiclgkddcaaDoor.Short
open Go.RowKit Go.Proofs.YtbapkiclgkddcaaDoorW.PrintWords Go.Proofs.YtbapkiclgkddcaaDoorW.PrintLast Go.Proofs.YtbapkiclgkddcaaDoorW.PrintMore
attribute [local go_sem] max2_int min2_int max_two min_two max_three min_three max_four min_four   -- for this text's walks alone
set_option linter.unusedVariables false
set_option linter.unusedSimpArgs false

/-! ### ratio_abs: function 41 -/
def ratio_abs.f (a0 : Int) : Option (Int) := if a0 < 0 then (some (IntKind.u64.wrap (wrap64 (-a0)))) else (some (IntKind.u64.wrap (a0)))
set_option maxHeartbeats 8000000 in
set_option maxRecDepth 100000 in
theorem ratio_abs.calls (a0 : Int) (r : Int) (w : World) (h : ratio_abs.f a0 = some r) :
  Calls Tryd.prog 41 #[.int .i64 a0] w fun e w' => e = .returned (.int .u64 r) ∧ Drawn0 w w' := by
 have H : (if a0 < 0 then (some (IntKind.u64.wrap (wrap64 (-a0)))) else (some (IntKind.u64.wrap (a0)))) = some r := h; clear h
 by_cases c2 : a0 < 0
 ·rw [if_pos c2] at H; have c2b0 : decide (a0 < 0) = true := decide_eq_true c2; clear c2; obtain rfl := Option.some.inj H; (go_enter Tryd.func41, Tryd.ntmps41); (go_wp2); (go_ret); exact ⟨by first | rfl | (simp; done) | (simp [*]; done), by repeat (first | exact Drawn0.refl _ | apply Drawn0.step)⟩
 ·rw [if_neg c2] at H; have c2b0 : decide (a0 < 0) = false := decide_eq_false c2; clear c2; obtain rfl := Option.some.inj H; (go_enter Tryd.func41, Tryd.ntmps41); (go_wp2); (go_ret); exact ⟨by first | rfl | (simp; done) | (simp [*]; done), by repeat (first | exact Drawn0.refl _ | apply Drawn0.step)⟩

end Go.Proofs.YtbapkiclgkddcaaDoor.G

-- Printed by gp.py (a program of this session's own, over the kit's printer) out of the translation; Lean checks it.
namespace Go.Proofs.YtbapkiclgkddcaaDoor.G
open Go.Proofs.YtbapkiclgkddcaaDoor.Given Go.Proofs.YtbapkiclgkddcaaDoor.Short
open Go.RowKit Go.Proofs.YtbapkiclgkddcaaDoorW.PrintWords Go.Proofs.YtbapkiclgkddcaaDoorW.PrintLast Go.Proofs.YtbapkiclgkddcaaDoorW.PrintMore
attribute [local go_sem] max2_int min2_int max_two min_two max_three min_three max_four min_four   -- for this text's walks alone
set_option linter.unusedVariables false
set_option linter.unusedSimpArgs false

/-! ### ratio_New: function 20 -/
def ratio_New.f (k : Nat) (a0 : Int) (a1 : Int) : Option (Int × Int × Int) := if a1 = 0 then (some (0, 0, 2)) else ((ratio_abs.f a0).bind fun t117 => ((ratio_abs.f a1).bind fun t118 => ((ratio_lowest.f k ((decide (a0 < 0)) != (decide (a1 < 0))) 0 t117 t118).bind fun bt119 => (some (bt119.1, bt119.2.1, bt119.2.2)))))
theorem ratio_New.mono : ∀ a0 a1 k, LeO (ratio_New.f k a0 a1) (ratio_New.f (k + 1) a0 a1) := by
 intro a0 a1 k; unfold ratio_New.f
 repeat' first
   | (with_reducible exact ratio_lowest.mono _ _ _ _ _)
   | (with_reducible exact LeO.refl _)
   | (with_reducible exact LeO.none _)
   | (with_reducible refine LeO.ite ?_ ?_)
   | (with_reducible refine LeO.bind ?_ (fun _ => ?_))
   | exact ratio_lowest.mono _ _ _ _ _
   | exact LeO.none _
   | refine LeO.ite ?_ ?_
   | refine LeO.bind ?_ (fun _ => ?_)
set_option maxHeartbeats 8000000 in
set_option maxRecDepth 100000 in
theorem ratio_New.calls (k : Nat) (a0 : Int) (a1 : Int) (r1 : Int) (r2 : Int) (r3 : Int) (w : World) (h : ratio_New.f k a0 a1 = some (r1, r2, r3)) :
  Calls Tryd.prog 20 #[.int .i64 a0, .int .i64 a1] w fun e w' => e = .returned (.tuple #[.agg #[.int .i64 r1, .int .i64 r2], .int .i64 r3]) ∧ Below w.heap.size w w' := by
 have hu24 := Tryd.underlying24; have hu58 := Tryd.underlying58; have HB := Aside0.mk (Below.refl w.heap.size w); have H : (if a1 = 0 then (some (0, 0, 2)) else ((ratio_abs.f a0).bind fun t117 => ((ratio_abs.f a1).bind fun t118 => ((ratio_lowest.f k ((decide (a0 < 0)) != (decide (a1 < 0))) 0 t117 t118).bind fun bt119 => (some (bt119.1, bt119.2.1, bt119.2.2)))))) = some (r1, r2, r3) := h; clear h
 by_cases c3 : a1 = 0
 ·rw [if_pos c3] at H; have c3b0 : (a1 == 0) = true := beq_iff_eq.mpr c3; have c3b1 : (a1 != 0) = false := bne_eq_false_iff_eq.mpr c3; clear c3; simp only [Option.some.injEq, Prod.mk.injEq] at H; obtain ⟨rfl, rfl, rfl⟩ := H; (go_enter Tryd.func20, Tryd.ntmps20); (go_wp2_with (first | ((with_reducible refine gate_dst (N := 4) rfl ?_); refine bx (N := 4) (cs := #[.int .i64 0, .int .i64 0]) (t := 24) ?_; intro gb116 hg w4 hbox hb; have BK116 := Aside0.mk (hbox); have GW116 := gs HB hg; have GE116 := gs HB hg; replace HB := wb HB hb; clear hb hbox hg; have hcz5_0 : w4.cell? ⟨gb116, 0, none⟩ = some (.int .i64 0) := bc BK116 0; have hcz5_1 : w4.cell? ⟨gb116, 1, none⟩ = some (.int .i64 0) := bc BK116 1; have hfz5_0 := blk_frozen BK116.out 0; have hfz5_1 := blk_frozen BK116.out 1))); refine bodyPost_ret (results_ct rfl _ _ gb116 24 #[.int .i64 0, .int .i64 0] (0, 0) _ rfl (by refine pe ?_; refine blk_put (cs := #[.int .i64 0, .int .i64 0]) ?_ 1 _ rfl; refine pe ?_; refine blk_put (cs := #[.int .i64 0, .int .i64 0]) ?_ 0 _ rfl; refine pe ?_; exact BK116.out) Tryd.underlying24 rfl (by kernel_rfl)) rfl ?_; exact ⟨by first | rfl | (simp [errW_none, errW_some] <;> rfl) | (simp [*, errW_none, errW_some] <;> rfl), bw HB⟩
 ·rw [if_neg c3] at H; have c3b0 : (a1 == 0) = false := beq_eq_false_iff_ne.mpr c3; have c3b1 : (a1 != 0) = true := bne_iff_ne.mpr c3; replace H := Option.bind_eq_some_iff.mp H; obtain ⟨t117, A60, H⟩ := H; (try dsimp only at H); have A6 := Aside0.mk A60; clear A60; replace H := Option.bind_eq_some_iff.mp H; obtain ⟨t118, A70, H⟩ := H; (try dsimp only at H); have A7 := Aside0.mk A70; clear A70; replace H := Option.bind_eq_some_iff.mp H; obtain ⟨⟨t119, t120, t121⟩, A80, H⟩ := H; (try dsimp only at H); have A8 := Aside0.mk A80; clear A80; simp only [Option.some.injEq, Prod.mk.injEq] at H; obtain ⟨rfl, rfl, rfl⟩ := H; (go_enter Tryd.func20, Tryd.ntmps20); (go_wp2_with (first | ((with_reducible refine gate_dst (N := 4) rfl ?_); refine bx (N := 4) (cs := #[.int .i64 0, .int .i64 0]) (t := 24) ?_; intro gb116 hg w9 hbox hb; have BK116 := Aside0.mk (hbox); have GW116 := gs HB hg; have GE116 := gs HB hg; replace HB := wb HB hb; clear hb hbox hg) | ((with_reducible refine gate_callee (f := 41) rfl ?_); refine gl (some 15) Tryd.func41 #[.int .i64 a0] ?_; (with_reducible refine (ratio_abs.calls a0 t117 _ A6.out).mono ?_); rintro e w' ⟨rfl, ⟨nd, rfl⟩⟩; refine ⟨_, rfl, ?_⟩; (try (rw [drewN_self w9]; generalize hq_ : World.drewN w9 _ = w9; replace BK116 : Aside0 (w9.heap[gb116]? = some (.cells #[.int .i64 0, .int .i64 0] 24 (0, 0))) := ⟨by rw [← hq_]; exact (bq BK116)⟩; replace HB : Aside0 (Below w.heap.size w w9) := ⟨by rw [← hq_]; exact (bw HB)⟩; clear hq_))) | ((with_reducible refine gate_callee (f := 41) rfl ?_); refine gl (some 18) Tryd.func41 #[.int .i64 a1] ?_; (with_reducible refine (ratio_abs.calls a1 t118 _ A7.out).mono ?_); rintro e w' ⟨rfl, ⟨nd, rfl⟩⟩; refine ⟨_, rfl, ?_⟩; (try (rw [drewN_self w9]; generalize hq_ : World.drewN w9 _ = w9; replace BK116 : Aside0 (w9.heap[gb116]? = some (.cells #[.int .i64 0, .int .i64 0] 24 (0, 0))) := ⟨by rw [← hq_]; exact (bq BK116)⟩; replace HB : Aside0 (Below w.heap.size w w9) := ⟨by rw [← hq_]; exact (bw HB)⟩; clear hq_))) | ((with_reducible refine gate_callee (f := 40) rfl ?_); refine gl (some 19) Tryd.func40 #[.agg #[.bool ((decide (a0 < 0)) != (decide (a1 < 0))), .int .u64 0, .int .u64 t117], .int .u64 t118] ?_; (with_reducible refine (ratio_lowest.calls k ((decide (a0 < 0)) != (decide (a1 < 0))) 0 t117 t118 t119 t120 t121 _ A8.out).mono ?_); rintro e w10 ⟨rfl, hb⟩; refine ⟨_, rfl, ?_⟩; replace BK116 := kb BK116 hb; replace HB := wb HB hb; (try clear hb); (try clear hb2); (try clear hk); (try clear hi); have hcz11_0 : w10.cell? ⟨gb116, 0, none⟩ = some (.int .i64 0) := bc BK116 0; have hcz11_1 : w10.cell? ⟨gb116, 1, none⟩ = some (.int .i64 0) := bc BK116 1; have hfz11_0 := blk_frozen BK116.out 0; have hfz11_1 := blk_frozen BK116.out 1))); refine bodyPost_ret (results_ct rfl _ _ gb116 24 #[.int .i64 t119, .int .i64 t120] (0, 0) _ rfl (by refine pe ?_; refine blk_put (cs := #[.int .i64 t119, .int .i64 0]) ?_ 1 _ rfl; refine pe ?_; refine blk_put (cs := #[.int .i64 0, .int .i64 0]) ?_ 0 _ rfl; refine pe ?_; exact BK116.out) Tryd.underlying24 rfl (by kernel_rfl)) rfl ?_; exact ⟨by first | rfl | (simp [errW_none, errW_some] <;> rfl) | (simp [*, errW_none, errW_some] <;> rfl), bw HB⟩

end Go.Proofs.YtbapkiclgkddcaaDoor.G
