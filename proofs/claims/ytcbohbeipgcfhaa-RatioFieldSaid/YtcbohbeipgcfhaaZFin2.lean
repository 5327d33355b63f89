/- Texts of this claim laid together: Gf65, Gf48, Gf49, Gf22, Gf18, Gf19. -/
import Derived.Test.YtcbohbeipgcfhaaShortC
import Derived.Test.YtcbohbeipgcfhaaG0
import Derived.Test.YtcbohbeipgcfhaaZFin1
import Derived.Test.YtcbohbeipgcfhaaGe0
-- Printed by gp.py (a program of this session's own, over the kit's printer) out of the translation; Lean checks it.
namespace Go.Proofs.Ytcbohbeipgcfhaa.G
open Go.Proofs.Ytcbohbeipgcfhaa.Given Go.Proofs.Ytcbohbeipgcfhaa.Short
open Go.RowKit Go.Proofs.YtcbohbeipgcfhaaW.PrintWords Go.Proofs.YtcbohbeipgcfhaaW.PrintLast Go.Proofs.YtcbohbeipgcfhaaW.PrintMore
attribute [local go_sem] max2_int min2_int max_two min_two max_three min_three max_four min_four   -- for this text's walks alone
set_option linter.unusedVariables false
set_option linter.unusedSimpArgs false

/-! ### ratio_wide_over: function 65 -/
def ratio_wide_over.f (k : Nat) (a0_0 : Bool) (a0_1 : Int) (a0_2 : Int) (a1 : Int) : Option (Bool × Int × Int) := if a1 = 0 then (none) else ((bits_Div64.f k (Int.tmod a0_1 a1) a0_2 a1).bind fun bt128 => (some (a0_0, IntKind.u64.wrap (Int.tdiv a0_1 a1), bt128.1)))
theorem ratio_wide_over.mono : ∀ a0 a1 a2 a3 k, LeO (ratio_wide_over.f k a0 a1 a2 a3) (ratio_wide_over.f (k + 1) a0 a1 a2 a3) := by
 intro a0 a1 a2 a3 k; unfold ratio_wide_over.f
 repeat' first
   | (with_reducible exact bits_Div64.mono _ _ _ _)
   | (with_reducible exact LeO.refl _)
   | (with_reducible exact LeO.none _)
   | (with_reducible refine LeO.ite ?_ ?_)
   | (with_reducible refine LeO.bind ?_ (fun _ => ?_))
   | exact bits_Div64.mono _ _ _ _
   | exact LeO.none _
   | refine LeO.ite ?_ ?_
   | refine LeO.bind ?_ (fun _ => ?_)
def ratio_wide_over.T1 : Bool × List (List Nat × List Nat) := (true, [([], []), ([0], [0]), ([], []), ([1, 2], [1, 2]), ([], []), ([4], [4]), ([], []), ([3, 5, 6], [3, 5, 6]), ([7], [7]), ([8], [8]), ([8], [8]), ([9, 7, 0, 1, 2, 3, 4, 5, 6, 7, 8, 9], [9]), ([10, 11, 0, 1, 2, 3, 4, 5, 6, 7, 8, 9, 10, 11], [10])])
def ratio_wide_over.B1 : List Nat := [0, 1, 0, 7, 0, 16, 0, 127, 255, 511, 511, 1023, 4095]
theorem ratio_wide_over.tab1 : rtab .any (opsOf Try.f65 1) = ratio_wide_over.T1 := by kernel_rfl
theorem ratio_wide_over.bits1 : waitsOk ratio_wide_over.T1.2 ratio_wide_over.B1 = true := by kernel_rfl
def ratio_wide_over.T2 : Bool × List (List Nat × List Nat) := (true, [([], []), ([0], [0]), ([], []), ([2], [2]), ([], []), ([3, 4], [3, 4]), ([], []), ([1, 5, 6], [1, 5, 6]), ([7, 0, 1, 2, 3, 4, 5, 6, 7], [7])])
def ratio_wide_over.B2 : List Nat := [0, 1, 0, 4, 0, 28, 0, 127, 255]
theorem ratio_wide_over.tab2 : rtab .any (opsOf Try.f65 2) = ratio_wide_over.T2 := by kernel_rfl
theorem ratio_wide_over.bits2 : waitsOk ratio_wide_over.T2.2 ratio_wide_over.B2 = true := by kernel_rfl
set_option maxHeartbeats 8000000 in
set_option maxRecDepth 100000 in
theorem ratio_wide_over.calls (k : Nat) (a0_0 : Bool) (a0_1 : Int) (a0_2 : Int) (a1 : Int) (r1 : Bool) (r2 : Int) (r3 : Int) (w : World) (h : ratio_wide_over.f k a0_0 a0_1 a0_2 a1 = some (r1, r2, r3)) :
  Calls Try.prog 65 #[.agg #[.bool a0_0, .int .u64 a0_1, .int .u64 a0_2], .int .u64 a1] w fun e w' => e = .returned (.agg #[.bool r1, .int .u64 r2, .int .u64 r3]) ∧ Below w.heap.size w w' := by
 have hu58 := Try.underlying58; have HB := Aside0.mk (Below.refl w.heap.size w); have H : (if a1 = 0 then (none) else ((bits_Div64.f k (Int.tmod a0_1 a1) a0_2 a1).bind fun bt128 => (some (a0_0, IntKind.u64.wrap (Int.tdiv a0_1 a1), bt128.1)))) = some (r1, r2, r3) := h; clear h
 by_cases c3 : a1 = 0
 ·rw [if_pos c3] at H; exact absurd H (by simp)
 ·rw [if_neg c3] at H; have c3b0 : (a1 == 0) = false := beq_eq_false_iff_ne.mpr c3; have c3b1 : (a1 != 0) = true := bne_iff_ne.mpr c3; replace H := Option.bind_eq_some_iff.mp H; obtain ⟨⟨t128, t129⟩, A40, H⟩ := H; (try dsimp only at H); have A4 := Aside0.mk A40; clear A40; simp only [Option.some.injEq, Prod.mk.injEq] at H; obtain ⟨rfl, rfl, rfl⟩ := H; (go_enter Try.func65, Try.ntmps65); (try go_wp2_with (first | ((with_reducible refine gate_dst (N := 2) rfl ?_); refine bx (N := 2) (cs := #[.bool a0_0, .int .u64 a0_1, .int .u64 a0_2]) (t := 58) ?_; intro gb126 hg w5 hbox hb; have BK126 := Aside0.mk (hbox); have GW126 := gs HB hg; have GE126 := gs HB hg; replace HB := wb HB hb; clear hb hbox hg) | ((with_reducible refine gate_dst (N := 4) rfl ?_); refine bx (N := 4) (cs := #[.bool false, .int .u64 0, .int .u64 0]) (t := 58) ?_; intro gb127 hg w6 hbox hb; have BK127 := Aside0.mk (hbox); have GW127 := gs HB hg; have GE127 := gs HB hg; have NB126_127 := nl BK126 hg; have NB127_126 := nr BK126 hg; replace BK126 := kb BK126 hb; replace HB := wb HB hb; clear hb hbox hg))); have n0_ := Aside0.mk (blk_drew BK126.out); have n1_ := Aside0.mk (blk_drew BK127.out); have n2_ := Aside0.mk (below_drew1 HB.out); clear BK126; clear BK127; clear HB; have BK126 := n0_; have BK127 := n1_; have HB := n2_; clear n0_ n1_ n2_; refine start_ (n := 13) (S := fun w' => w'.cell? ⟨gb126, 0, none⟩ = some (.bool a0_0) ∧ w'.cell? ⟨gb126, 1, none⟩ = some (.int .u64 a0_1) ∧ w'.cell? ⟨gb126, 2, none⟩ = some (.int .u64 a0_2)) (ds := []) #[false, false, false, false, false, false, false, false, false, false, false, false, false] (by kernel_rfl) rfl rfl ⟨bc BK126 0, bc BK126 1, bc BK126 2⟩ (fun hHeld => ?_); refine with_tabW ratio_wide_over.tab1 ratio_wide_over.bits1 (fun HT_ HW_ => ?_); (generalize w6.drew = w7 at BK126 BK127 HB hHeld ⊢); refine pure_ (i := 0) (N := some 8) (v := ?_) (a' := ?_) #[true, false, false, false, false, false, false, false, false, false, false, false, false] rfl rfl (any_of HT_.out (by kernel_rfl)) (fun _ _ _ h => h) (Or.inl ⟨by rfl, ?_⟩) ?_ ?_; rotate_left
  ·intro w'; (go_simp); with_reducible rfl
  rotate_left
  ·simp only [Act.put, List.setIfInBounds_toArray, List.set_cons_zero, List.set_cons_succ, i64_w, i32_w]; rfl
  refine pure_ (i := 2) (N := some 10) (v := ?_) (a' := ?_) #[true, false, true, false, false, false, false, false, false, false, false, false, false] rfl rfl (any_of HT_.out (by kernel_rfl)) (fun _ _ _ h => h) (Or.inl ⟨by rfl, ?_⟩) ?_ ?_; rotate_left
  ·intro w'; (go_simp); with_reducible rfl
  rotate_left
  ·simp only [Act.put, List.setIfInBounds_toArray, List.set_cons_zero, List.set_cons_succ, i64_w, i32_w]; rfl
  refine pure_ (i := 4) (N := some 12) (v := ?_) (a' := ?_) #[true, false, true, false, true, false, false, false, false, false, false, false, false] rfl rfl (any_of HT_.out (by kernel_rfl)) (fun _ _ _ h => h) (Or.inl ⟨by rfl, ?_⟩) ?_ ?_; rotate_left
  ·intro w'; (go_simp); with_reducible rfl
  rotate_left
  ·simp only [Act.put, List.setIfInBounds_toArray, List.set_cons_zero, List.set_cons_succ, i64_w, i32_w]; rfl
  refine pure_ (i := 6) (N := some 14) (v := ?_) (a' := ?_) #[true, false, true, false, true, false, true, false, false, false, false, false, false] rfl rfl (any_of HT_.out (by kernel_rfl)) (fun _ _ _ h => h) (Or.inl ⟨by rfl, ?_⟩) ?_ ?_; rotate_left
  ·intro w'; (go_simp); with_reducible rfl
  rotate_left
  ·simp only [Act.put, List.setIfInBounds_toArray, List.set_cons_zero, List.set_cons_succ, i64_w, i32_w]; rfl
  refine take_ (i := 1) (N := some 9) (v := ?_) (a' := ?_) #[true, true, true, false, true, false, true, false, false, false, false, false, false] rfl rfl (take_ofW HT_.out HW_.out (by kernel_rfl)) (fun _ _ _ h => h) (Or.inl ⟨by rfl, ?_⟩) hHeld ?_ ?_; rotate_left
  ·rintro w' ⟨s0, s1, s2⟩; (go_simp); with_reducible rfl
  rotate_left
  ·simp only [Act.put, List.setIfInBounds_toArray, List.set_cons_zero, List.set_cons_succ, i64_w, i32_w]; rfl
  refine pure_ (i := 3) (N := some 11) (v := ?_) (a' := ?_) #[true, true, true, true, true, false, true, false, false, false, false, false, false] rfl rfl (any_of HT_.out (by kernel_rfl)) (fun _ _ _ h => h) (Or.inl ⟨by rfl, ?_⟩) ?_ ?_; rotate_left
  ·intro w'; (go_simp); with_reducible rfl
  rotate_left
  ·simp only [Act.put, List.setIfInBounds_toArray, List.set_cons_zero, List.set_cons_succ, i64_w, i32_w]; rfl
  refine take_ (i := 5) (N := some 13) (v := ?_) (a' := ?_) #[true, true, true, true, true, true, true, false, false, false, false, false, false] rfl rfl (take_ofW HT_.out HW_.out (by kernel_rfl)) (fun _ _ _ h => h) (Or.inl ⟨by rfl, ?_⟩) hHeld ?_ ?_; rotate_left
  ·rintro w' ⟨s0, s1, s2⟩; (go_simp); with_reducible rfl
  rotate_left
  ·simp only [Act.put, List.setIfInBounds_toArray, List.set_cons_zero, List.set_cons_succ, i64_w, i32_w]; rfl
  refine one_ (i := 7) (N := some 15) #[true, true, true, true, true, true, true, true, false, false, false, false, false] rfl rfl (one_of HT_.out (by kernel_rfl)) (by decide) (fun K hK => ?_); refine gz Try.func76 #[.int .u64 (Int.tmod a0_1 a1), .int .u64 a0_2, .int .u64 a1] ?_; (with_reducible refine (bits_Div64.calls k (Int.tmod a0_1 a1) a0_2 a1 t128 t129 _ A4.out).mono ?_); rintro e w' ⟨rfl, ⟨nd, rfl⟩⟩; refine ⟨_, rfl, ?_⟩; refine hK.out _ _ ⟨bc BK126 0, bc BK126 1, bc BK126 2⟩ (fun hHeld => ?_); clear hK K; refine norm_ (a' := ?_) ?_ ?_; rotate_left
  ·show Act.put _ (some 15) _ = _; simp only [Act.put, List.setIfInBounds_toArray, List.set_cons_zero, List.set_cons_succ, i64_w, i32_w]; rfl
  refine pure_ (i := 8) (N := some 7) (v := ?_) (a' := ?_) #[true, true, true, true, true, true, true, true, true, false, false, false, false] rfl rfl (any_of HT_.out (by kernel_rfl)) (fun _ _ _ h => h) (Or.inl ⟨by rfl, ?_⟩) ?_ ?_; rotate_left
  ·intro w'; (go_simp); with_reducible rfl
  rotate_left
  ·simp only [Act.put, List.setIfInBounds_toArray, List.set_cons_zero, List.set_cons_succ, i64_w, i32_w]; rfl
  refine pure_ (i := 9) (N := some 16) (v := ?_) (a' := ?_) #[true, true, true, true, true, true, true, true, true, true, false, false, false] rfl rfl (any_of HT_.out (by kernel_rfl)) (fun _ _ _ h => h) (Or.inl ⟨by rfl, ?_⟩) ?_ ?_; rotate_left
  ·intro w'; (go_simp); with_reducible rfl
  rotate_left
  ·simp only [Act.put, List.setIfInBounds_toArray, List.set_cons_zero, List.set_cons_succ, i64_w, i32_w]; rfl
  refine pure_ (i := 10) (N := some 17) (v := ?_) (a' := ?_) #[true, true, true, true, true, true, true, true, true, true, true, false, false] rfl rfl (any_of HT_.out (by kernel_rfl)) (fun _ _ _ h => h) (Or.inl ⟨by rfl, ?_⟩) ?_ ?_; rotate_left
  ·intro w'; (go_simp); with_reducible rfl
  rotate_left
  ·simp only [Act.put, List.setIfInBounds_toArray, List.set_cons_zero, List.set_cons_succ, i64_w, i32_w]; rfl
  refine pure_ (i := 11) (N := some 5) (v := ?_) (a' := ?_) #[true, true, true, true, true, true, true, true, true, true, true, true, false] rfl rfl (any_of HT_.out (by kernel_rfl)) (fun _ _ _ h => h) (Or.inl ⟨by rfl, ?_⟩) ?_ ?_; rotate_left
  ·intro w'; (go_simp); with_reducible rfl
  rotate_left
  ·simp only [Act.put, List.setIfInBounds_toArray, List.set_cons_zero, List.set_cons_succ, i64_w, i32_w]; rfl
  refine pure_ (i := 12) (N := some 6) (v := ?_) (a' := ?_) #[true, true, true, true, true, true, true, true, true, true, true, true, true] rfl rfl (any_of HT_.out (by kernel_rfl)) (fun _ _ _ h => h) (Or.inl ⟨by rfl, ?_⟩) ?_ ?_; rotate_left
  ·intro w'; (go_simp); with_reducible rfl
  rotate_left
  ·simp only [Act.put, List.setIfInBounds_toArray, List.set_cons_zero, List.set_cons_succ, i64_w, i32_w]; rfl
  refine done_ (done_of HT_.out (by kernel_rfl)) ?_; (try go_wp2); (try (rw [drewN_self w7]; generalize hq_ : World.drewN w7 _ = w7; replace BK126 : Aside0 (w7.heap[gb126]? = some (.cells #[.bool a0_0, .int .u64 a0_1, .int .u64 a0_2] 58 (0, 0))) := ⟨by rw [← hq_]; exact (bq BK126)⟩; replace BK127 : Aside0 (w7.heap[gb127]? = some (.cells #[.bool false, .int .u64 0, .int .u64 0] 58 (0, 0))) := ⟨by rw [← hq_]; exact (bq BK127)⟩; replace HB : Aside0 (Below w.heap.size w w7) := ⟨by rw [← hq_]; exact (bw HB)⟩; clear hq_)); have n0_ := Aside0.mk (blk_drew BK126.out); have n1_ := Aside0.mk (blk_drew BK127.out); have n2_ := Aside0.mk (below_drew1 HB.out); clear BK126; clear BK127; clear HB; have BK126 := n0_; have BK127 := n1_; have HB := n2_; clear n0_ n1_ n2_; refine start_ (n := 9) (S := fun w' => w'.cell? ⟨gb126, 0, none⟩ = some (.bool a0_0) ∧ w'.cell? ⟨gb126, 1, none⟩ = some (.int .u64 a0_1) ∧ w'.cell? ⟨gb126, 2, none⟩ = some (.int .u64 a0_2)) (ds := []) #[false, false, false, false, false, false, false, false, false] (by kernel_rfl) rfl rfl ⟨bc BK126 0, bc BK126 1, bc BK126 2⟩ (fun hHeld => ?_); refine with_tabW ratio_wide_over.tab2 ratio_wide_over.bits2 (fun HT_ HW_ => ?_); (generalize w7.drew = w8 at BK126 BK127 HB hHeld ⊢); refine pure_ (i := 0) (N := some 18) (v := ?_) (a' := ?_) #[true, false, false, false, false, false, false, false, false] rfl rfl (any_of HT_.out (by kernel_rfl)) (fun _ _ _ h => h) (Or.inl ⟨by rfl, ?_⟩) ?_ ?_; rotate_left
  ·intro w'; (go_simp); with_reducible rfl
  rotate_left
  ·simp only [Act.put, List.setIfInBounds_toArray, List.set_cons_zero, List.set_cons_succ, i64_w, i32_w]; rfl
  refine pure_ (i := 2) (N := some 20) (v := ?_) (a' := ?_) #[true, false, true, false, false, false, false, false, false] rfl rfl (any_of HT_.out (by kernel_rfl)) (fun _ _ _ h => h) (Or.inl ⟨by rfl, ?_⟩) ?_ ?_; rotate_left
  ·intro w'; (go_simp); with_reducible rfl
  rotate_left
  ·simp only [Act.put, List.setIfInBounds_toArray, List.set_cons_zero, List.set_cons_succ, i64_w, i32_w]; rfl
  refine pure_ (i := 4) (N := some 22) (v := ?_) (a' := ?_) #[true, false, true, false, true, false, false, false, false] rfl rfl (any_of HT_.out (by kernel_rfl)) (fun _ _ _ h => h) (Or.inl ⟨by rfl, ?_⟩) ?_ ?_; rotate_left
  ·intro w'; (go_simp); with_reducible rfl
  rotate_left
  ·simp only [Act.put, List.setIfInBounds_toArray, List.set_cons_zero, List.set_cons_succ, i64_w, i32_w]; rfl
  refine pure_ (i := 6) (N := some 24) (v := ?_) (a' := ?_) #[true, false, true, false, true, false, true, false, false] rfl rfl (any_of HT_.out (by kernel_rfl)) (fun _ _ _ h => h) (Or.inl ⟨by rfl, ?_⟩) ?_ ?_; rotate_left
  ·intro w'; (go_simp); with_reducible rfl
  rotate_left
  ·simp only [Act.put, List.setIfInBounds_toArray, List.set_cons_zero, List.set_cons_succ, i64_w, i32_w]; rfl
  refine take_ (i := 1) (N := some 19) (v := ?_) (a' := ?_) #[true, true, true, false, true, false, true, false, false] rfl rfl (take_ofW HT_.out HW_.out (by kernel_rfl)) (fun _ _ _ h => h) (Or.inl ⟨by rfl, ?_⟩) hHeld ?_ ?_; rotate_left
  ·rintro w' ⟨s0, s1, s2⟩; (go_simp); with_reducible rfl
  rotate_left
  ·simp only [Act.put, List.setIfInBounds_toArray, List.set_cons_zero, List.set_cons_succ, i64_w, i32_w]; rfl
  refine take_ (i := 3) (N := some 21) (v := ?_) (a' := ?_) #[true, true, true, true, true, false, true, false, false] rfl rfl (take_ofW HT_.out HW_.out (by kernel_rfl)) (fun _ _ _ h => h) (Or.inl ⟨by rfl, ?_⟩) hHeld ?_ ?_; rotate_left
  ·rintro w' ⟨s0, s1, s2⟩; (go_simp); with_reducible rfl
  rotate_left
  ·simp only [Act.put, List.setIfInBounds_toArray, List.set_cons_zero, List.set_cons_succ, i64_w, i32_w]; rfl
  refine pure_ (i := 5) (N := some 23) (v := ?_) (a' := ?_) #[true, true, true, true, true, true, true, false, false] rfl rfl (any_of HT_.out (by kernel_rfl)) (fun _ _ _ h => h) (Or.inl ⟨by rfl, ?_⟩) ?_ ?_; rotate_left
  ·intro w'; (go_simp); with_reducible rfl
  rotate_left
  ·simp only [Act.put, List.setIfInBounds_toArray, List.set_cons_zero, List.set_cons_succ, i64_w, i32_w]; rfl
  refine pure_ (i := 7) (N := some 25) (v := ?_) (a' := ?_) #[true, true, true, true, true, true, true, true, false] rfl rfl (any_of HT_.out (by kernel_rfl)) (fun _ _ _ h => h) (Or.inl ⟨by rfl, ?_⟩) ?_ ?_; rotate_left
  ·intro w'; (go_simp); with_reducible rfl
  rotate_left
  ·simp only [Act.put, List.setIfInBounds_toArray, List.set_cons_zero, List.set_cons_succ, i64_w, i32_w]; rfl
  refine one_ (i := 8) (N := none) #[true, true, true, true, true, true, true, true, true] rfl rfl (one_of HT_.out (by kernel_rfl)) (by decide) (fun K hK => ?_); have hs9 : w8.cell? ⟨gb127, 0, none⟩ = some (.bool false) := bc BK127 0; have hfs9 := blk_frozen BK127.out 0; have hns9_0 := NB126_127.out; have hms9_0 := NB127_126.out; have hs10 : w8.cell? ⟨gb127, 1, none⟩ = some (.int .u64 0) := bc BK127 1; have hfs10 := blk_frozen BK127.out 1; have hns10_0 := NB126_127.out; have hms10_0 := NB127_126.out; have hs11 : w8.cell? ⟨gb127, 2, none⟩ = some (.int .u64 0) := bc BK127 2; have hfs11 := blk_frozen BK127.out 2; have hns11_0 := NB126_127.out; have hms11_0 := NB127_126.out; refine skip_ (w1 := ?_) (by rfl) rfl ?_ ?_; rotate_left
  ·(go_simp); rfl
  refine hK.out _ _ ⟨((cell_far (p := ⟨gb127, _, none⟩) NB126_127.out _).trans (((cell_far (p := ⟨gb127, _, none⟩) NB126_127.out _).trans (((cell_far (p := ⟨gb127, _, none⟩) NB126_127.out _).trans (hHeld.1)))))), ((cell_far (p := ⟨gb127, _, none⟩) NB126_127.out _).trans (((cell_far (p := ⟨gb127, _, none⟩) NB126_127.out _).trans (((cell_far (p := ⟨gb127, _, none⟩) NB126_127.out _).trans (hHeld.2.1)))))), ((cell_far (p := ⟨gb127, _, none⟩) NB126_127.out _).trans (((cell_far (p := ⟨gb127, _, none⟩) NB126_127.out _).trans (((cell_far (p := ⟨gb127, _, none⟩) NB126_127.out _).trans (hHeld.2.2))))))⟩ (fun hHeld => ?_); clear hK K; refine done_ (done_of HT_.out (by kernel_rfl)) ?_; (try go_wp2); refine bodyPost_ret (results_cell_row rfl _ _ gb127 58 #[.bool a0_0, .int .u64 (IntKind.u64.wrap (Int.tdiv a0_1 a1)), .int .u64 t128] (0, 0) _ rfl (by refine pe ?_; refine blk_put (cs := #[.bool a0_0, .int .u64 (IntKind.u64.wrap (Int.tdiv a0_1 a1)), .int .u64 0]) ?_ 2 _ rfl; refine pe ?_; refine blk_put (cs := #[.bool a0_0, .int .u64 0, .int .u64 0]) ?_ 1 _ rfl; refine pe ?_; refine blk_put (cs := #[.bool false, .int .u64 0, .int .u64 0]) ?_ 0 _ rfl; refine pe ?_; exact BK127.out) Try.underlying58 rfl (by kernel_rfl)) rfl ?_; exact ⟨by first | rfl | (simp [errW_none, errW_some] <;> rfl) | (simp [*, errW_none, errW_some] <;> rfl), bw HB⟩

end Go.Proofs.Ytcbohbeipgcfhaa.G

-- Printed by gp.py (a program of this session's own, over the kit's printer) out of the translation; Lean checks it.
namespace Go.Proofs.Ytcbohbeipgcfhaa.G
open Go.Proofs.Ytcbohbeipgcfhaa.Given Go.Proofs.Ytcbohbeipgcfhaa.Short
open Go.RowKit Go.Proofs.YtcbohbeipgcfhaaW.PrintWords Go.Proofs.YtcbohbeipgcfhaaW.PrintLast Go.Proofs.YtcbohbeipgcfhaaW.PrintMore
attribute [local go_sem] max2_int min2_int max_two min_two max_three min_three max_four min_four   -- for this text's walks alone
set_option linter.unusedVariables false
set_option linter.unusedSimpArgs false

/-! ### ratio_lowest: function 48 -/
def ratio_lowest.j0 : Nat → Int → Bool → Bool → Int → Int → Option (Int × Int × Int)
 | 0, _, _, _, _, _ => none
 | k + 1, x1, x33, x131000, x131001, x131002 => if x33 = true then (some (0, 0, 6)) else (if x131000 = true then (some (wrap64 (-(wrap64 (x131002))), wrap64 (x1), 0)) else (some (wrap64 (x131002), wrap64 (x1), 0)))
def ratio_lowest.f (k : Nat) (a0_0 : Bool) (a0_1 : Int) (a0_2 : Int) (a1 : Int) : Option (Int × Int × Int) := (bits_Rem64.f k a0_1 a0_2 a1).bind fun t132 => ((ratio_gcd.f k a1 t132).bind fun t133 => ((ratio_wide_over.f k a0_0 a0_1 a0_2 t133).bind fun bt134 => (if t133 = 0 then (none) else (if bt134.2.1 = 0 then (if bt134.2.2 > 1152921504606846976 then (ratio_lowest.j0 k (IntKind.u64.wrap (Int.tdiv a1 t133)) true bt134.1 bt134.2.1 bt134.2.2) else (ratio_lowest.j0 k (IntKind.u64.wrap (Int.tdiv a1 t133)) (decide ((IntKind.u64.wrap (Int.tdiv a1 t133)) > 1152921504606846976)) bt134.1 bt134.2.1 bt134.2.2)) else (ratio_lowest.j0 k (IntKind.u64.wrap (Int.tdiv a1 t133)) true bt134.1 bt134.2.1 bt134.2.2)))))
theorem ratio_lowest.mono_l : ∀ k, (∀ y0 y1 y2 y3 y4, LeO (ratio_lowest.j0 k y0 y1 y2 y3 y4) (ratio_lowest.j0 (k + 1) y0 y1 y2 y3 y4))
 | 0 => fun _ _ _ _ _ r h => by simp [ratio_lowest.j0] at h
 | k + 1 => by
  have ih0 := ratio_lowest.mono_l k
  ·intro y0 y1 y2 y3 y4; unfold ratio_lowest.j0
   repeat' first
   | (with_reducible exact ih0 _ _ _ _ _)
   | (with_reducible exact bits_Rem64.mono _ _ _ _)
   | (with_reducible exact ratio_gcd.mono _ _ _)
   | (with_reducible exact ratio_wide_over.mono _ _ _ _ _)
   | (with_reducible exact LeO.refl _)
   | (with_reducible exact LeO.none _)
   | (with_reducible refine LeO.ite ?_ ?_)
   | (with_reducible refine LeO.bind ?_ (fun _ => ?_))
   | exact ih0 _ _ _ _ _
   | exact bits_Rem64.mono _ _ _ _
   | exact ratio_gcd.mono _ _ _
   | exact ratio_wide_over.mono _ _ _ _ _
   | exact LeO.none _
   | refine LeO.ite ?_ ?_
   | refine LeO.bind ?_ (fun _ => ?_)
theorem ratio_lowest.mono : ∀ a0 a1 a2 a3 k, LeO (ratio_lowest.f k a0 a1 a2 a3) (ratio_lowest.f (k + 1) a0 a1 a2 a3) := by
 intro a0 a1 a2 a3 k; have ih0 := ratio_lowest.mono_l k; unfold ratio_lowest.f
 repeat' first
   | (with_reducible exact ih0 _ _ _ _ _)
   | (with_reducible exact bits_Rem64.mono _ _ _ _)
   | (with_reducible exact ratio_gcd.mono _ _ _)
   | (with_reducible exact ratio_wide_over.mono _ _ _ _ _)
   | (with_reducible exact LeO.refl _)
   | (with_reducible exact LeO.none _)
   | (with_reducible refine LeO.ite ?_ ?_)
   | (with_reducible refine LeO.bind ?_ (fun _ => ?_))
   | exact ih0 _ _ _ _ _
   | exact bits_Rem64.mono _ _ _ _
   | exact ratio_gcd.mono _ _ _
   | exact ratio_wide_over.mono _ _ _ _ _
   | exact LeO.none _
   | refine LeO.ite ?_ ?_
   | refine LeO.bind ?_ (fun _ => ?_)
def ratio_lowest.T2 : Bool × List (List Nat × List Nat) := (true, [([], []), ([], []), ([0, 1], [0, 1]), ([], []), ([], []), ([3, 4], [3, 4]), ([2, 2, 0, 1, 2], [2]), ([5, 6, 0, 1, 2, 3, 4, 5, 6], [3, 5])])
def ratio_lowest.B2 : List Nat := [0, 0, 3, 0, 0, 24, 7, 127]
theorem ratio_lowest.tab2 : rtab .any (opsOf Try.f48 2) = ratio_lowest.T2 := by kernel_rfl
theorem ratio_lowest.bits2 : waitsOk ratio_lowest.T2.2 ratio_lowest.B2 = true := by kernel_rfl
set_option maxHeartbeats 8000000 in
set_option maxRecDepth 100000 in
theorem ratio_lowest.calls (k : Nat) (a0_0 : Bool) (a0_1 : Int) (a0_2 : Int) (a1 : Int) (r1 : Int) (r2 : Int) (r3 : Int) (w : World) (h : ratio_lowest.f k a0_0 a0_1 a0_2 a1 = some (r1, r2, r3)) :
  Calls Try.prog 48 #[.agg #[.bool a0_0, .int .u64 a0_1, .int .u64 a0_2], .int .u64 a1] w fun e w' => e = .returned (.tuple #[.agg #[.int .i64 r1, .int .i64 r2], .int .i64 r3]) ∧ Below w.heap.size w w' := by
 have hu58 := Try.underlying58; have hu35 := Try.underlying35; have HB := Aside0.mk (Below.refl w.heap.size w); have H : ((bits_Rem64.f k a0_1 a0_2 a1).bind fun t132 => ((ratio_gcd.f k a1 t132).bind fun t133 => ((ratio_wide_over.f k a0_0 a0_1 a0_2 t133).bind fun bt134 => (if t133 = 0 then (none) else (if bt134.2.1 = 0 then (if bt134.2.2 > 1152921504606846976 then (ratio_lowest.j0 k (IntKind.u64.wrap (Int.tdiv a1 t133)) true bt134.1 bt134.2.1 bt134.2.2) else (ratio_lowest.j0 k (IntKind.u64.wrap (Int.tdiv a1 t133)) (decide ((IntKind.u64.wrap (Int.tdiv a1 t133)) > 1152921504606846976)) bt134.1 bt134.2.1 bt134.2.2)) else (ratio_lowest.j0 k (IntKind.u64.wrap (Int.tdiv a1 t133)) true bt134.1 bt134.2.1 bt134.2.2)))))) = some (r1, r2, r3) := h; clear h; replace H := Option.bind_eq_some_iff.mp H; obtain ⟨t132, A30, H⟩ := H; (try dsimp only at H); have A3 := Aside0.mk A30; clear A30; replace H := Option.bind_eq_some_iff.mp H; obtain ⟨t133, A40, H⟩ := H; (try dsimp only at H); have A4 := Aside0.mk A40; clear A40; replace H := Option.bind_eq_some_iff.mp H; obtain ⟨⟨t134, t135, t136⟩, A50, H⟩ := H; (try dsimp only at H); have A5 := Aside0.mk A50; clear A50
 by_cases c6 : t133 = 0
 ·rw [if_pos c6] at H; exact absurd H (by simp)
 ·rw [if_neg c6] at H; have c6b0 : (t133 == 0) = false := beq_eq_false_iff_ne.mpr c6; have c6b1 : (t133 != 0) = true := bne_iff_ne.mpr c6; have HC7 := Aside0.mk H; clear H; (go_enter Try.func48, Try.ntmps48); (try go_wp2_with (first | ((with_reducible refine gate_dst (N := 2) rfl ?_); refine bx (N := 2) (cs := #[.bool a0_0, .int .u64 a0_1, .int .u64 a0_2]) (t := 58) ?_; intro gb130 hg w8 hbox hb; have BK130 := Aside0.mk (hbox); have GW130 := gs HB hg; have GE130 := gs HB hg; replace HB := wb HB hb; clear hb hbox hg) | ((with_reducible refine gate_dst (N := 4) rfl ?_); refine bx (N := 4) (cs := #[.int .i64 0, .int .i64 0]) (t := 35) ?_; intro gb131 hg w9 hbox hb; have BK131 := Aside0.mk (hbox); have GW131 := gs HB hg; have GE131 := gs HB hg; have NB130_131 := nl BK130 hg; have NB131_130 := nr BK130 hg; replace BK130 := kb BK130 hb; replace HB := wb HB hb; clear hb hbox hg; obtain ⟨hnb10, hnc10⟩ := n2 NB130_131; have hcz11_0 : w9.cell? ⟨gb130, 0, none⟩ = some (.bool a0_0) := bc BK130 0; have hcz11_1 : w9.cell? ⟨gb130, 1, none⟩ = some (.int .u64 a0_1) := bc BK130 1; have hcz11_2 : w9.cell? ⟨gb130, 2, none⟩ = some (.int .u64 a0_2) := bc BK130 2; have hfz11_0 := blk_frozen BK130.out 0; have hfz11_1 := blk_frozen BK130.out 1; have hfz11_2 := blk_frozen BK130.out 2) | ((with_reducible refine gate_callee (f := 64) rfl ?_); refine gl (some 14) Try.func64 #[.int .u64 a0_1, .int .u64 a0_2, .int .u64 a1] ?_; (with_reducible refine (bits_Rem64.calls k a0_1 a0_2 a1 t132 _ A3.out).mono ?_); rintro e w' ⟨rfl, ⟨nd, rfl⟩⟩; refine ⟨_, rfl, ?_⟩; (try (rw [drewN_self w9]; generalize hq_ : World.drewN w9 _ = w9; replace BK130 : Aside0 (w9.heap[gb130]? = some (.cells #[.bool a0_0, .int .u64 a0_1, .int .u64 a0_2] 58 (0, 0))) := ⟨by rw [← hq_]; exact (bq BK130)⟩; replace BK131 : Aside0 (w9.heap[gb131]? = some (.cells #[.int .i64 0, .int .i64 0] 35 (0, 0))) := ⟨by rw [← hq_]; exact (bq BK131)⟩; replace HB : Aside0 (Below w.heap.size w w9) := ⟨by rw [← hq_]; exact (bw HB)⟩; clear hq_))) | ((with_reducible refine gate_callee (f := 52) rfl ?_); refine gl (some 15) Try.func52 #[.int .u64 a1, .int .u64 t132] ?_; (with_reducible refine (ratio_gcd.calls k a1 t132 t133 _ A4.out).mono ?_); rintro e w' ⟨rfl, ⟨nd, rfl⟩⟩; refine ⟨_, rfl, ?_⟩; (try (rw [drewN_self w9]; generalize hq_ : World.drewN w9 _ = w9; replace BK130 : Aside0 (w9.heap[gb130]? = some (.cells #[.bool a0_0, .int .u64 a0_1, .int .u64 a0_2] 58 (0, 0))) := ⟨by rw [← hq_]; exact (bq BK130)⟩; replace BK131 : Aside0 (w9.heap[gb131]? = some (.cells #[.int .i64 0, .int .i64 0] 35 (0, 0))) := ⟨by rw [← hq_]; exact (bq BK131)⟩; replace HB : Aside0 (Below w.heap.size w w9) := ⟨by rw [← hq_]; exact (bw HB)⟩; clear hq_))))); have n0_ := Aside0.mk (blk_drew BK130.out); have n1_ := Aside0.mk (blk_drew BK131.out); have n2_ := Aside0.mk (below_drew1 HB.out); clear BK130; clear BK131; clear HB; have BK130 := n0_; have BK131 := n1_; have HB := n2_; clear n0_ n1_ n2_; refine start_ (n := 8) (S := fun w' => w'.cell? ⟨gb130, 0, none⟩ = some (.bool a0_0) ∧ w'.cell? ⟨gb130, 1, none⟩ = some (.int .u64 a0_1) ∧ w'.cell? ⟨gb130, 2, none⟩ = some (.int .u64 a0_2)) (ds := [6]) #[false, false, false, false, false, false, false, false] (by kernel_rfl) rfl rfl ⟨bc BK130 0, bc BK130 1, bc BK130 2⟩ (fun hHeld => ?_); refine with_tabW ratio_lowest.tab2 ratio_lowest.bits2 (fun HT_ HW_ => ?_); (generalize w9.drew = w12 at BK130 BK131 HB hHeld ⊢); refine pure_ (i := 1) (N := some 17) (v := ?_) (a' := ?_) #[false, true, false, false, false, false, false, false] rfl rfl (any_of HT_.out (by kernel_rfl)) (fun _ _ _ h => h) (Or.inl ⟨by rfl, ?_⟩) ?_ ?_; rotate_left
  ·intro w'; (go_simp); with_reducible rfl
  rotate_left
  ·simp only [Act.put, List.setIfInBounds_toArray, List.set_cons_zero, List.set_cons_succ, i64_w, i32_w]; rfl
  refine pure_ (i := 3) (N := some 19) (v := ?_) (a' := ?_) #[false, true, false, true, false, false, false, false] rfl rfl (any_of HT_.out (by kernel_rfl)) (fun _ _ _ h => h) (Or.inl ⟨by rfl, ?_⟩) ?_ ?_; rotate_left
  ·intro w'; (go_simp); with_reducible rfl
  rotate_left
  ·simp only [Act.put, List.setIfInBounds_toArray, List.set_cons_zero, List.set_cons_succ, i64_w, i32_w]; rfl
  refine pure_ (i := 4) (N := some 20) (v := ?_) (a' := ?_) #[false, true, false, true, true, false, false, false] rfl rfl (any_of HT_.out (by kernel_rfl)) (fun _ _ _ h => h) (Or.inl ⟨by rfl, ?_⟩) ?_ ?_; rotate_left
  ·intro w'; (go_simp); with_reducible rfl
  rotate_left
  ·simp only [Act.put, List.setIfInBounds_toArray, List.set_cons_zero, List.set_cons_succ, i64_w, i32_w]; rfl
  refine pure_ (i := 5) (N := some 21) (v := ?_) (a' := ?_) #[false, true, false, true, true, true, false, false] rfl rfl (any_of HT_.out (by kernel_rfl)) (fun _ _ _ h => h) (Or.inl ⟨by rfl, ?_⟩) ?_ ?_; rotate_left
  ·intro w'; (go_simp); with_reducible rfl
  rotate_left
  ·simp only [Act.put, List.setIfInBounds_toArray, List.set_cons_zero, List.set_cons_succ, i64_w, i32_w]; rfl
  refine take_ (i := 0) (N := some 16) (v := ?_) (a' := ?_) #[true, true, false, true, true, true, false, false] rfl rfl (take_ofW HT_.out HW_.out (by kernel_rfl)) (fun _ _ _ h => h) (Or.inl ⟨by rfl, ?_⟩) hHeld ?_ ?_; rotate_left
  ·rintro w' ⟨s0, s1, s2⟩; (go_simp); with_reducible rfl
  rotate_left
  ·simp only [Act.put, List.setIfInBounds_toArray, List.set_cons_zero, List.set_cons_succ, i64_w, i32_w]; rfl
  refine one_ (i := 2) (N := some 18) #[true, true, true, true, true, true, false, false] rfl rfl (one_of HT_.out (by kernel_rfl)) (by decide) (fun K hK => ?_); refine gz Try.func65 #[.agg #[.bool a0_0, .int .u64 a0_1, .int .u64 a0_2], .int .u64 t133] ?_; (with_reducible refine (ratio_wide_over.calls k a0_0 a0_1 a0_2 t133 t134 t135 t136 _ A5.out).mono ?_); rintro e w13 ⟨rfl, hb⟩; refine ⟨_, rfl, ?_⟩; have n0_ := kb BK130 hb; have n1_ := kb BK131 hb; have n2_ := wb HB hb; clear BK130; clear BK131; clear HB; have BK130 := n0_; have BK131 := n1_; have HB := n2_; clear n0_ n1_ n2_; (try clear hb); (try clear hb2); (try clear hk); (try clear hi); refine hK.out _ _ ⟨bc BK130 0, bc BK130 1, bc BK130 2⟩ (fun hHeld => ?_); clear hK K; refine norm_ (a' := ?_) ?_ ?_; rotate_left
  ·show Act.put _ (some 18) _ = _; simp only [Act.put, List.setIfInBounds_toArray, List.set_cons_zero, List.set_cons_succ, i64_w, i32_w]; rfl
  refine last_ (i := 6) (N := none) #[true, true, true, true, true, true, true, false] rfl rfl (one_of HT_.out (by kernel_rfl)) (by decide) (fun K hK => ?_); have hs14 : w13.cell? ⟨gb130, 0, none⟩ = some (.bool a0_0) := bc BK130 0; have hfs14 := blk_frozen BK130.out 0; have hns14_1 := NB131_130.out; have hms14_1 := NB130_131.out; have hs15 : w13.cell? ⟨gb130, 1, none⟩ = some (.int .u64 a0_1) := bc BK130 1; have hfs15 := blk_frozen BK130.out 1; have hns15_1 := NB131_130.out; have hms15_1 := NB130_131.out; have hs16 : w13.cell? ⟨gb130, 2, none⟩ = some (.int .u64 a0_2) := bc BK130 2; have hfs16 := blk_frozen BK130.out 2; have hns16_1 := NB131_130.out; have hms16_1 := NB130_131.out; refine skip_ (w1 := ?_) (by rfl) rfl ?_ ?_; rotate_left
  ·(go_simp); rfl
  refine hK.out _ _ ?_; clear hK K; refine pure_ (i := 7) (N := some 1) (v := ?_) (a' := ?_) #[true, true, true, true, true, true, true, true] rfl rfl (any_of HT_.out (by kernel_rfl)) (fun _ _ _ h => h) (Or.inl ⟨by rfl, ?_⟩) ?_ ?_; rotate_left
  ·intro w'; (go_simp); with_reducible rfl
  rotate_left
  ·simp only [Act.put, List.setIfInBounds_toArray, List.set_cons_zero, List.set_cons_succ, i64_w, i32_w]; rfl
  refine done_ (done_of HT_.out (by kernel_rfl)) ?_
  go_upto_region 3 with (fail)
  go_cut [33] (fun v33 wc => ∃ (kq : Nat) (x33_6 : Bool), v33 = .bool x33_6 ∧ Aside0 (ratio_lowest.j0 kq (IntKind.u64.wrap (Int.tdiv a1 t133)) x33_6 t134 t135 t136 = some (r1, r2, r3)) ∧ Aside0 (kq ≤ k) ∧ Aside0 (wc.heap[gb130]? = some (.cells #[.bool t134, .int .u64 t135, .int .u64 t136] 58 (0, 0))) ∧ Aside0 (wc.heap[gb131]? = some (.cells #[.int .i64 0, .int .i64 0] 35 (0, 0))) ∧ Aside0 (Below w.heap.size w wc))
  case first =>
   have H := HC7.out; clear HC7
   by_cases c17 : t135 = 0
   ·rw [if_pos c17] at H; have c17b0 : (t135 == 0) = true := beq_iff_eq.mpr c17; have c17b1 : (t135 != 0) = false := bne_eq_false_iff_eq.mpr c17; clear c17
    (first | rw [c17b0] | (simp only [i64_w, i32_w]; rw [c17b0]) | skip)
    by_cases c18 : t136 > 1152921504606846976
    ·rw [if_pos c18] at H; have c18b0 : decide (1152921504606846976 < t136) = true := decide_eq_true c18; clear c18; have H' := Aside0.mk H; clear H; obtain ⟨hnb19, hnc19⟩ := n2 NB130_131; have hcz20_0 : w13.cell? ⟨gb130, 0, none⟩ = some (.bool a0_0) := bc BK130 0; have hcz20_1 : w13.cell? ⟨gb130, 1, none⟩ = some (.int .u64 a0_1) := bc BK130 1; have hcz20_2 : w13.cell? ⟨gb130, 2, none⟩ = some (.int .u64 a0_2) := bc BK130 2; have hfz20_0 := blk_frozen BK130.out 0; have hfz20_1 := blk_frozen BK130.out 1; have hfz20_2 := blk_frozen BK130.out 2; go_wp2
     go_meet
     case rel => exact ⟨_, (true), (by first | rfl | (simp; done) | (simp [*]; done)), H', ⟨by first | omega | exact Nat.le_refl _⟩, ⟨by refine pe ?_; refine blk_put (cs := #[.bool t134, .int .u64 t135, .int .u64 a0_2]) ?_ 2 _ rfl; refine pe ?_; refine blk_put (cs := #[.bool t134, .int .u64 a0_1, .int .u64 a0_2]) ?_ 1 _ rfl; refine pe ?_; refine blk_put (cs := #[.bool a0_0, .int .u64 a0_1, .int .u64 a0_2]) ?_ 0 _ rfl; refine pe ?_; exact BK130.out⟩, ⟨bq BK131⟩, ⟨bw HB⟩⟩
    ·rw [if_neg c18] at H; have c18b0 : decide (1152921504606846976 < t136) = false := decide_eq_false c18; clear c18; have H' := Aside0.mk H; clear H; obtain ⟨hnb21, hnc21⟩ := n2 NB130_131; have hcz22_0 : w13.cell? ⟨gb130, 0, none⟩ = some (.bool a0_0) := bc BK130 0; have hcz22_1 : w13.cell? ⟨gb130, 1, none⟩ = some (.int .u64 a0_1) := bc BK130 1; have hcz22_2 : w13.cell? ⟨gb130, 2, none⟩ = some (.int .u64 a0_2) := bc BK130 2; have hfz22_0 := blk_frozen BK130.out 0; have hfz22_1 := blk_frozen BK130.out 1; have hfz22_2 := blk_frozen BK130.out 2; go_wp2
     go_meet
     case rel => exact ⟨_, (decide ((IntKind.u64.wrap (Int.tdiv a1 t133)) > 1152921504606846976)), (by first | rfl | (simp; done) | (simp [*]; done)), H', ⟨by first | omega | exact Nat.le_refl _⟩, ⟨by refine pe ?_; refine blk_put (cs := #[.bool t134, .int .u64 t135, .int .u64 a0_2]) ?_ 2 _ rfl; refine pe ?_; refine blk_put (cs := #[.bool t134, .int .u64 a0_1, .int .u64 a0_2]) ?_ 1 _ rfl; refine pe ?_; refine blk_put (cs := #[.bool a0_0, .int .u64 a0_1, .int .u64 a0_2]) ?_ 0 _ rfl; refine pe ?_; exact BK130.out⟩, ⟨bq BK131⟩, ⟨bw HB⟩⟩
   ·rw [if_neg c17] at H; have c17b0 : (t135 == 0) = false := beq_eq_false_iff_ne.mpr c17; have c17b1 : (t135 != 0) = true := bne_iff_ne.mpr c17
    (first | rw [c17b0] | (simp only [i64_w, i32_w]; rw [c17b0]) | skip)
    have H' := Aside0.mk H; clear H; obtain ⟨hnb23, hnc23⟩ := n2 NB130_131; have hcz24_0 : w13.cell? ⟨gb130, 0, none⟩ = some (.bool a0_0) := bc BK130 0; have hcz24_1 : w13.cell? ⟨gb130, 1, none⟩ = some (.int .u64 a0_1) := bc BK130 1; have hcz24_2 : w13.cell? ⟨gb130, 2, none⟩ = some (.int .u64 a0_2) := bc BK130 2; have hfz24_0 := blk_frozen BK130.out 0; have hfz24_1 := blk_frozen BK130.out 1; have hfz24_2 := blk_frozen BK130.out 2; go_wp2
    go_meet
    case rel => exact ⟨_, (true), (by first | rfl | (simp; done) | (simp [*]; done)), H', ⟨by first | omega | exact Nat.le_refl _⟩, ⟨by refine pe ?_; refine blk_put (cs := #[.bool t134, .int .u64 t135, .int .u64 a0_2]) ?_ 2 _ rfl; refine pe ?_; refine blk_put (cs := #[.bool t134, .int .u64 a0_1, .int .u64 a0_2]) ?_ 1 _ rfl; refine pe ?_; refine blk_put (cs := #[.bool a0_0, .int .u64 a0_1, .int .u64 a0_2]) ?_ 0 _ rfl; refine pe ?_; exact BK130.out⟩, ⟨bq BK131⟩, ⟨bw HB⟩⟩
  case rest =>
   clear HC7; (try clear c1); (try clear c2); (try clear p2); (try clear c4); (try clear c5); (try clear c6); (try clear c6b0); (try clear c6b1); (try clear c10); (try clear c17); (try clear c17b0); (try clear c17b1); (try clear c18); (try clear c18b0); (try clear c19); (try clear c21); (try clear c23); (try clear hcz11_0); (try clear hcz11_1); (try clear hcz11_2); (try clear hcz20_0); (try clear hcz20_1); (try clear hcz20_2); (try clear hcz22_0); (try clear hcz22_1); (try clear hcz22_2); (try clear hcz24_0); (try clear hcz24_1); (try clear hcz24_2); (try clear hfz11_0); (try clear hfz11_1); (try clear hfz11_2); (try clear hfz20_0); (try clear hfz20_1); (try clear hfz20_2); (try clear hfz22_0); (try clear hfz22_1); (try clear hfz22_2); (try clear hfz24_0); (try clear hfz24_1); (try clear hfz24_2); obtain ⟨kq, x33_6, rfl, HA, HJ6, BK130, BK131, HB⟩ := hcut
   cases kq with
   | zero => exact absurd HA.out (by simp [ratio_lowest.j0])
   | succ kj6 =>
    have H := HA.out; clear HA; simp only [ratio_lowest.j0] at H
    by_cases c25 : x33_6 = true
    ·subst c25; (have H1 : (some (0, 0, 6)) = some (r1, r2, r3) := by rw [if_pos rfl] at H; exact H); clear H; have H := H1; clear H1; simp only [Option.some.injEq, Prod.mk.injEq] at H; obtain ⟨rfl, rfl, rfl⟩ := H; obtain ⟨hnb26, hnc26⟩ := n2 NB131_130; have hcz27_0 : wc.cell? ⟨gb131, 0, none⟩ = some (.int .i64 0) := bc BK131 0; have hcz27_1 : wc.cell? ⟨gb131, 1, none⟩ = some (.int .i64 0) := bc BK131 1; have hfz27_0 := blk_frozen BK131.out 0; have hfz27_1 := blk_frozen BK131.out 1; (go_wp2); refine bodyPost_ret (results_ct rfl _ _ gb131 35 #[.int .i64 0, .int .i64 0] (0, 0) _ rfl (by refine pe ?_; refine blk_put (cs := #[.int .i64 0, .int .i64 0]) ?_ 1 _ rfl; refine pe ?_; refine blk_put (cs := #[.int .i64 0, .int .i64 0]) ?_ 0 _ rfl; refine pe ?_; exact BK131.out) Try.underlying35 rfl (by kernel_rfl)) rfl ?_; exact ⟨by first | rfl | (simp [errW_none, errW_some] <;> rfl) | (simp [*, errW_none, errW_some] <;> rfl), bw HB⟩
    ·replace c25 := Bool.eq_false_iff.mpr c25; subst c25; (have H1 : (if t134 = true then (some (wrap64 (-(wrap64 (t136))), wrap64 ((IntKind.u64.wrap (Int.tdiv a1 t133))), 0)) else (some (wrap64 (t136), wrap64 ((IntKind.u64.wrap (Int.tdiv a1 t133))), 0))) = some (r1, r2, r3) := by rw [if_neg (show ¬ (false = true) by decide)] at H; exact H); clear H; have H := H1; clear H1
     by_cases c28 : t134 = true
     ·subst c28; (have H1 : (some (wrap64 (-(wrap64 (t136))), wrap64 ((IntKind.u64.wrap (Int.tdiv a1 t133))), 0)) = some (r1, r2, r3) := by rw [if_pos rfl] at H; exact H); clear H; have H := H1; clear H1; simp only [Option.some.injEq, Prod.mk.injEq] at H; obtain ⟨rfl, rfl, rfl⟩ := H; obtain ⟨hnb29, hnc29⟩ := n2 NB130_131; have hcz30_0 : wc.cell? ⟨gb130, 0, none⟩ = some (.bool true) := bc BK130 0; have hcz30_1 : wc.cell? ⟨gb130, 1, none⟩ = some (.int .u64 t135) := bc BK130 1; have hcz30_2 : wc.cell? ⟨gb130, 2, none⟩ = some (.int .u64 t136) := bc BK130 2; have hfz30_0 := blk_frozen BK130.out 0; have hfz30_1 := blk_frozen BK130.out 1; have hfz30_2 := blk_frozen BK130.out 2; have hcz31_0 : wc.cell? ⟨gb131, 0, none⟩ = some (.int .i64 0) := bc BK131 0; have hcz31_1 : wc.cell? ⟨gb131, 1, none⟩ = some (.int .i64 0) := bc BK131 1; have hfz31_0 := blk_frozen BK131.out 0; have hfz31_1 := blk_frozen BK131.out 1; (go_wp2); refine bodyPost_ret (results_ct rfl _ _ gb131 35 #[.int .i64 (wrap64 (-(wrap64 (t136)))), .int .i64 (wrap64 ((IntKind.u64.wrap (Int.tdiv a1 t133))))] (0, 0) _ rfl (by refine pe ?_; refine blk_put (cs := #[.int .i64 (wrap64 (-(wrap64 (t136)))), .int .i64 0]) ?_ 1 _ rfl; refine pe ?_; refine blk_put (cs := #[.int .i64 0, .int .i64 0]) ?_ 0 _ rfl; refine pe ?_; exact BK131.out) Try.underlying35 rfl (by kernel_rfl)) rfl ?_; exact ⟨by first | rfl | (simp [errW_none, errW_some] <;> rfl) | (simp [*, errW_none, errW_some] <;> rfl), bw HB⟩
     ·replace c28 := Bool.eq_false_iff.mpr c28; subst c28; (have H1 : (some (wrap64 (t136), wrap64 ((IntKind.u64.wrap (Int.tdiv a1 t133))), 0)) = some (r1, r2, r3) := by rw [if_neg (show ¬ (false = true) by decide)] at H; exact H); clear H; have H := H1; clear H1; simp only [Option.some.injEq, Prod.mk.injEq] at H; obtain ⟨rfl, rfl, rfl⟩ := H; obtain ⟨hnb32, hnc32⟩ := n2 NB130_131; have hcz33_0 : wc.cell? ⟨gb130, 0, none⟩ = some (.bool false) := bc BK130 0; have hcz33_1 : wc.cell? ⟨gb130, 1, none⟩ = some (.int .u64 t135) := bc BK130 1; have hcz33_2 : wc.cell? ⟨gb130, 2, none⟩ = some (.int .u64 t136) := bc BK130 2; have hfz33_0 := blk_frozen BK130.out 0; have hfz33_1 := blk_frozen BK130.out 1; have hfz33_2 := blk_frozen BK130.out 2; have hcz34_0 : wc.cell? ⟨gb131, 0, none⟩ = some (.int .i64 0) := bc BK131 0; have hcz34_1 : wc.cell? ⟨gb131, 1, none⟩ = some (.int .i64 0) := bc BK131 1; have hfz34_0 := blk_frozen BK131.out 0; have hfz34_1 := blk_frozen BK131.out 1; (go_wp2); refine bodyPost_ret (results_ct rfl _ _ gb131 35 #[.int .i64 (wrap64 (t136)), .int .i64 (wrap64 ((IntKind.u64.wrap (Int.tdiv a1 t133))))] (0, 0) _ rfl (by refine pe ?_; refine blk_put (cs := #[.int .i64 (wrap64 (t136)), .int .i64 0]) ?_ 1 _ rfl; refine pe ?_; refine blk_put (cs := #[.int .i64 0, .int .i64 0]) ?_ 0 _ rfl; refine pe ?_; exact BK131.out) Try.underlying35 rfl (by kernel_rfl)) rfl ?_; exact ⟨by first | rfl | (simp [errW_none, errW_some] <;> rfl) | (simp [*, errW_none, errW_some] <;> rfl), bw HB⟩

end Go.Proofs.Ytcbohbeipgcfhaa.G

-- Printed by gp.py (a program of this session's own, over the kit's printer) out of the translation; Lean checks it.
namespace Go.Proofs.Ytcbohbeipgcfhaa.G
open Go.Proofs.Ytcbohbeipgcfhaa.Given Go.Proofs.Ytcbohbeipgcfhaa.Short
open Go.RowKit Go.Proofs.YtcbohbeipgcfhaaW.PrintWords Go.Proofs.YtcbohbeipgcfhaaW.PrintLast Go.Proofs.YtcbohbeipgcfhaaW.PrintMore
attribute [local go_sem] max2_int min2_int max_two min_two max_three min_three max_four min_four   -- for this text's walks alone
set_option linter.unusedVariables false
set_option linter.unusedSimpArgs false

/-! ### ratio_abs: function 49 -/
def ratio_abs.f (a0 : Int) : Option (Int) := if a0 < 0 then (some (IntKind.u64.wrap (wrap64 (-a0)))) else (some (IntKind.u64.wrap (a0)))
set_option maxHeartbeats 8000000 in
set_option maxRecDepth 100000 in
theorem ratio_abs.calls (a0 : Int) (r : Int) (w : World) (h : ratio_abs.f a0 = some r) :
  Calls Try.prog 49 #[.int .i64 a0] w fun e w' => e = .returned (.int .u64 r) ∧ Drawn0 w w' := by
 have H : (if a0 < 0 then (some (IntKind.u64.wrap (wrap64 (-a0)))) else (some (IntKind.u64.wrap (a0)))) = some r := h; clear h
 by_cases c2 : a0 < 0
 ·rw [if_pos c2] at H; have c2b0 : decide (a0 < 0) = true := decide_eq_true c2; clear c2; obtain rfl := Option.some.inj H; (go_enter Try.func49, Try.ntmps49); (go_wp2); (go_ret); exact ⟨by first | rfl | (simp; done) | (simp [*]; done), by repeat (first | exact Drawn0.refl _ | apply Drawn0.step)⟩
 ·rw [if_neg c2] at H; have c2b0 : decide (a0 < 0) = false := decide_eq_false c2; clear c2; obtain rfl := Option.some.inj H; (go_enter Try.func49, Try.ntmps49); (go_wp2); (go_ret); exact ⟨by first | rfl | (simp; done) | (simp [*]; done), by repeat (first | exact Drawn0.refl _ | apply Drawn0.step)⟩

end Go.Proofs.Ytcbohbeipgcfhaa.G

-- Printed by gp.py (a program of this session's own, over the kit's printer) out of the translation; Lean checks it.
namespace Go.Proofs.Ytcbohbeipgcfhaa.G
open Go.Proofs.Ytcbohbeipgcfhaa.Given Go.Proofs.Ytcbohbeipgcfhaa.Short
open Go.RowKit Go.Proofs.YtcbohbeipgcfhaaW.PrintWords Go.Proofs.YtcbohbeipgcfhaaW.PrintLast Go.Proofs.YtcbohbeipgcfhaaW.PrintMore
attribute [local go_sem] max2_int min2_int max_two min_two max_three min_three max_four min_four   -- for this text's walks alone
set_option linter.unusedVariables false
set_option linter.unusedSimpArgs false

/-! ### ratio_New: function 22 -/
def ratio_New.f (k : Nat) (a0 : Int) (a1 : Int) : Option (Int × Int × Int) := if a1 = 0 then (some (0, 0, 2)) else ((ratio_abs.f a0).bind fun t138 => ((ratio_abs.f a1).bind fun t139 => ((ratio_lowest.f k ((decide (a0 < 0)) != (decide (a1 < 0))) 0 t138 t139).bind fun bt140 => (some (bt140.1, bt140.2.1, bt140.2.2)))))
theorem ratio_New.mono : ∀ a0 a1 k, LeO (ratio_New.f k a0 a1) (ratio_New.f (k + 1) a0 a1) := by
 intro a0 a1 k; unfold ratio_New.f
 repeat' first
   | (with_reducible exact ratio_lowest.mono _ _ _ _ _)
   | (with_reducible exact LeO.refl _)
   | (with_reducible exact LeO.none _)
   | (with_reducible refine LeO.ite ?_ ?_)
   | (with_reducible refine LeO.bind ?_ (fun _ => ?_))
   | exact ratio_lowest.mono _ _ _ _ _
   | exact LeO.none _
   | refine LeO.ite ?_ ?_
   | refine LeO.bind ?_ (fun _ => ?_)
set_option maxHeartbeats 8000000 in
set_option maxRecDepth 100000 in
theorem ratio_New.calls (k : Nat) (a0 : Int) (a1 : Int) (r1 : Int) (r2 : Int) (r3 : Int) (w : World) (h : ratio_New.f k a0 a1 = some (r1, r2, r3)) :
  Calls Try.prog 22 #[.int .i64 a0, .int .i64 a1] w fun e w' => e = .returned (.tuple #[.agg #[.int .i64 r1, .int .i64 r2], .int .i64 r3]) ∧ Below w.heap.size w w' := by
 have hu35 := Try.underlying35; have hu58 := Try.underlying58; have HB := Aside0.mk (Below.refl w.heap.size w); have H : (if a1 = 0 then (some (0, 0, 2)) else ((ratio_abs.f a0).bind fun t138 => ((ratio_abs.f a1).bind fun t139 => ((ratio_lowest.f k ((decide (a0 < 0)) != (decide (a1 < 0))) 0 t138 t139).bind fun bt140 => (some (bt140.1, bt140.2.1, bt140.2.2)))))) = some (r1, r2, r3) := h; clear h
 by_cases c3 : a1 = 0
 ·rw [if_pos c3] at H; have c3b0 : (a1 == 0) = true := beq_iff_eq.mpr c3; have c3b1 : (a1 != 0) = false := bne_eq_false_iff_eq.mpr c3; clear c3; simp only [Option.some.injEq, Prod.mk.injEq] at H; obtain ⟨rfl, rfl, rfl⟩ := H; (go_enter Try.func22, Try.ntmps22); (go_wp2_with (first | ((with_reducible refine gate_dst (N := 4) rfl ?_); refine bx (N := 4) (cs := #[.int .i64 0, .int .i64 0]) (t := 35) ?_; intro gb137 hg w4 hbox hb; have BK137 := Aside0.mk (hbox); have GW137 := gs HB hg; have GE137 := gs HB hg; replace HB := wb HB hb; clear hb hbox hg; have hcz5_0 : w4.cell? ⟨gb137, 0, none⟩ = some (.int .i64 0) := bc BK137 0; have hcz5_1 : w4.cell? ⟨gb137, 1, none⟩ = some (.int .i64 0) := bc BK137 1; have hfz5_0 := blk_frozen BK137.out 0; have hfz5_1 := blk_frozen BK137.out 1))); refine bodyPost_ret (results_ct rfl _ _ gb137 35 #[.int .i64 0, .int .i64 0] (0, 0) _ rfl (by refine pe ?_; refine blk_put (cs := #[.int .i64 0, .int .i64 0]) ?_ 1 _ rfl; refine pe ?_; refine blk_put (cs := #[.int .i64 0, .int .i64 0]) ?_ 0 _ rfl; refine pe ?_; exact BK137.out) Try.underlying35 rfl (by kernel_rfl)) rfl ?_; exact ⟨by first | rfl | (simp [errW_none, errW_some] <;> rfl) | (simp [*, errW_none, errW_some] <;> rfl), bw HB⟩
 ·rw [if_neg c3] at H; have c3b0 : (a1 == 0) = false := beq_eq_false_iff_ne.mpr c3; have c3b1 : (a1 != 0) = true := bne_iff_ne.mpr c3; replace H := Option.bind_eq_some_iff.mp H; obtain ⟨t138, A60, H⟩ := H; (try dsimp only at H); have A6 := Aside0.mk A60; clear A60; replace H := Option.bind_eq_some_iff.mp H; obtain ⟨t139, A70, H⟩ := H; (try dsimp only at H); have A7 := Aside0.mk A70; clear A70; replace H := Option.bind_eq_some_iff.mp H; obtain ⟨⟨t140, t141, t142⟩, A80, H⟩ := H; (try dsimp only at H); have A8 := Aside0.mk A80; clear A80; simp only [Option.some.injEq, Prod.mk.injEq] at H; obtain ⟨rfl, rfl, rfl⟩ := H; (go_enter Try.func22, Try.ntmps22); (go_wp2_with (first | ((with_reducible refine gate_dst (N := 4) rfl ?_); refine bx (N := 4) (cs := #[.int .i64 0, .int .i64 0]) (t := 35) ?_; intro gb137 hg w9 hbox hb; have BK137 := Aside0.mk (hbox); have GW137 := gs HB hg; have GE137 := gs HB hg; replace HB := wb HB hb; clear hb hbox hg) | ((with_reducible refine gate_callee (f := 49) rfl ?_); refine gl (some 15) Try.func49 #[.int .i64 a0] ?_; (with_reducible refine (ratio_abs.calls a0 t138 _ A6.out).mono ?_); rintro e w' ⟨rfl, ⟨nd, rfl⟩⟩; refine ⟨_, rfl, ?_⟩; (try (rw [drewN_self w9]; generalize hq_ : World.drewN w9 _ = w9; replace BK137 : Aside0 (w9.heap[gb137]? = some (.cells #[.int .i64 0, .int .i64 0] 35 (0, 0))) := ⟨by rw [← hq_]; exact (bq BK137)⟩; replace HB : Aside0 (Below w.heap.size w w9) := ⟨by rw [← hq_]; exact (bw HB)⟩; clear hq_))) | ((with_reducible refine gate_callee (f := 49) rfl ?_); refine gl (some 18) Try.func49 #[.int .i64 a1] ?_; (with_reducible refine (ratio_abs.calls a1 t139 _ A7.out).mono ?_); rintro e w' ⟨rfl, ⟨nd, rfl⟩⟩; refine ⟨_, rfl, ?_⟩; (try (rw [drewN_self w9]; generalize hq_ : World.drewN w9 _ = w9; replace BK137 : Aside0 (w9.heap[gb137]? = some (.cells #[.int .i64 0, .int .i64 0] 35 (0, 0))) := ⟨by rw [← hq_]; exact (bq BK137)⟩; replace HB : Aside0 (Below w.heap.size w w9) := ⟨by rw [← hq_]; exact (bw HB)⟩; clear hq_))) | ((with_reducible refine gate_callee (f := 48) rfl ?_); refine gl (some 19) Try.func48 #[.agg #[.bool ((decide (a0 < 0)) != (decide (a1 < 0))), .int .u64 0, .int .u64 t138], .int .u64 t139] ?_; (with_reducible refine (ratio_lowest.calls k ((decide (a0 < 0)) != (decide (a1 < 0))) 0 t138 t139 t140 t141 t142 _ A8.out).mono ?_); rintro e w10 ⟨rfl, hb⟩; refine ⟨_, rfl, ?_⟩; replace BK137 := kb BK137 hb; replace HB := wb HB hb; (try clear hb); (try clear hb2); (try clear hk); (try clear hi); have hcz11_0 : w10.cell? ⟨gb137, 0, none⟩ = some (.int .i64 0) := bc BK137 0; have hcz11_1 : w10.cell? ⟨gb137, 1, none⟩ = some (.int .i64 0) := bc BK137 1; have hfz11_0 := blk_frozen BK137.out 0; have hfz11_1 := blk_frozen BK137.out 1))); refine bodyPost_ret (results_ct rfl _ _ gb137 35 #[.int .i64 t140, .int .i64 t141] (0, 0) _ rfl (by refine pe ?_; refine blk_put (cs := #[.int .i64 t140, .int .i64 0]) ?_ 1 _ rfl; refine pe ?_; refine blk_put (cs := #[.int .i64 0, .int .i64 0]) ?_ 0 _ rfl; refine pe ?_; exact BK137.out) Try.underlying35 rfl (by kernel_rfl)) rfl ?_; exact ⟨by first | rfl | (simp [errW_none, errW_some] <;> rfl) | (simp [*, errW_none, errW_some] <;> rfl), bw HB⟩

end Go.Proofs.Ytcbohbeipgcfhaa.G

-- Printed by gp.py (a program of this session's own, over the kit's printer) out of the translation; Lean checks it.
namespace Go.Proofs.Ytcbohbeipgcfhaa.G
open Go.Proofs.Ytcbohbeipgcfhaa.Given Go.Proofs.Ytcbohbeipgcfhaa.Short
open Go.RowKit Go.Proofs.YtcbohbeipgcfhaaW.PrintWords Go.Proofs.YtcbohbeipgcfhaaW.PrintLast Go.Proofs.YtcbohbeipgcfhaaW.PrintMore
attribute [local go_sem] max2_int min2_int max_two min_two max_three min_three max_four min_four   -- for this text's walks alone
set_option linter.unusedVariables false
set_option linter.unusedSimpArgs false

attribute [local go_sem high] eqA35
/-! ### awardingbodylaw01_awake: function 18 -/
def awardingbodylaw01_awake.f (k : Nat)  : Option (Bool) := (ratio_New.f k 6 (-4)).bind fun bt143 => ((ratio_Apportion.f 3 (([5, 3, 0] : List Int))).bind fun bt150 => (if bt143.2.2 = 0 then (if (bt143.1 == (-3) && (bt143.2.1 == 2)) = true then (if bt150.2 = 0 then (if (bt150.1.length : Int) = 3 then (if 0 < (bt150.1.length : Int) then (if (rd bt150.1 0) = 2 then (if 1 < (bt150.1.length : Int) then (if (rd bt150.1 1) = 1 then (if 2 < (bt150.1.length : Int) then (some ((rd bt150.1 2) == 0)) else (none)) else (some false)) else (none)) else (some false)) else (none)) else (some false)) else (some false)) else (some false)) else (some false)))
theorem awardingbodylaw01_awake.mono : ∀ k, LeO (awardingbodylaw01_awake.f k ) (awardingbodylaw01_awake.f (k + 1) ) := by
 intro  k; unfold awardingbodylaw01_awake.f
 repeat' first
   | (with_reducible exact ratio_New.mono _ _ _)
   | (with_reducible exact LeO.refl _)
   | (with_reducible exact LeO.none _)
   | (with_reducible refine LeO.ite ?_ ?_)
   | (with_reducible refine LeO.bind ?_ (fun _ => ?_))
   | exact ratio_New.mono _ _ _
   | exact LeO.none _
   | refine LeO.ite ?_ ?_
   | refine LeO.bind ?_ (fun _ => ?_)
set_option maxHeartbeats 8000000 in
set_option maxRecDepth 100000 in
theorem awardingbodylaw01_awake.calls (k : Nat)  (r : Bool) (w : World) (h : awardingbodylaw01_awake.f k  = some r) :
  Calls Try.prog 18 #[] w fun e w' => e = .returned (.bool r) ∧ Below w.heap.size w w' := by
 have hu35 := Try.underlying35; have HB := Aside0.mk (Below.refl w.heap.size w); have H : ((ratio_New.f k 6 (-4)).bind fun bt143 => ((ratio_Apportion.f 3 (([5, 3, 0] : List Int))).bind fun bt150 => (if bt143.2.2 = 0 then (if (bt143.1 == (-3) && (bt143.2.1 == 2)) = true then (if bt150.2 = 0 then (if (bt150.1.length : Int) = 3 then (if 0 < (bt150.1.length : Int) then (if (rd bt150.1 0) = 2 then (if 1 < (bt150.1.length : Int) then (if (rd bt150.1 1) = 1 then (if 2 < (bt150.1.length : Int) then (some ((rd bt150.1 2) == 0)) else (none)) else (some false)) else (none)) else (some false)) else (none)) else (some false)) else (some false)) else (some false)) else (some false)))) = some r := h; clear h; replace H := Option.bind_eq_some_iff.mp H; obtain ⟨⟨t143, t144, t145⟩, A10, H⟩ := H; (try dsimp only at H); have A1 := Aside0.mk A10; clear A10; obtain ⟨y147, hy147⟩ : ∃ y_ : List Int, y_ = (([5, 3, 0] : List Int)) := ⟨_, rfl⟩; (replace H : ((ratio_Apportion.f 3 y147).bind fun bt150 => (if t145 = 0 then (if (t143 == (-3) && (t144 == 2)) = true then (if bt150.2 = 0 then (if (bt150.1.length : Int) = 3 then (if 0 < (bt150.1.length : Int) then (if (rd bt150.1 0) = 2 then (if 1 < (bt150.1.length : Int) then (if (rd bt150.1 1) = 1 then (if 2 < (bt150.1.length : Int) then (some ((rd bt150.1 2) == 0)) else (none)) else (some false)) else (none)) else (some false)) else (none)) else (some false)) else (some false)) else (some false)) else (some false))) = some r := by first | (rw [hy147]; with_reducible exact H) | (have H2_ := (Option.bind_some _ _).symm.trans H; rw [hy147]; with_reducible exact H2_) | (have H2_ := (Option.bind_some _ _).symm.trans H; with_reducible exact H2_) | with_reducible exact H | (rw [hy147]; exact H) | exact H); have Ny147 := Aside0.mk hy147; clear hy147; replace H := Option.bind_eq_some_iff.mp H; obtain ⟨⟨t150, t151⟩, A20, H⟩ := H; (try dsimp only at H); have A2 := Aside0.mk A20; clear A20; have HC3 := Aside0.mk H; clear H; go_enter Try.func18, Try.ntmps18
 go_upto_region 3 with (first | ((with_reducible refine gate_callee (f := 22) rfl ?_); refine gl (some 6) Try.func22 #[.int .i64 6, .int .i64 (-4)] ?_; (with_reducible refine (ratio_New.calls k 6 (-4) t143 t144 t145 _ A1.out).mono ?_); rintro e w4 ⟨rfl, hb⟩; refine ⟨_, rfl, ?_⟩; replace HB := wb HB hb; (try clear hb); (try clear hb2); (try clear hk); (try clear hi)) | ((with_reducible refine gate_dst (N := 1) rfl ?_); (try (refine gate_guard (by rfl) ?_; dsimp only)); refine bx (N := 1) (cs := #[.int .i64 0, .int .i64 0]) (t := 35) ?_; intro gb146 hg w5 hbox hb; have BK146 := Aside0.mk (hbox); have GW146 := gs HB hg; have GE146 := gs HB hg; replace HB := wb HB hb; clear hb hbox hg; have hcz6_0 : w5.cell? ⟨gb146, 0, none⟩ = some (.int .i64 0) := bc BK146 0; have hcz6_1 : w5.cell? ⟨gb146, 1, none⟩ = some (.int .i64 0) := bc BK146 1; have hfz6_0 := blk_frozen BK146.out 0; have hfz6_1 := blk_frozen BK146.out 1) | ((with_reducible refine gate_dst (N := 10) rfl ?_); (try (refine gate_guard (by rfl) ?_; dsimp only)); refine Kd.R_lit (Kd.int .i64) _ 3 ?hg (N := 10) ?hd (xs := ([5, 3, 0] : List Int)) (inner := [.int .i64 5, .int .i64 3, .int .i64 0]) (ok := fun _ => True) (okp := fun _ => True) ?hr ?hp (fun _ hk => hk) trivial (Below.refl _ _) (Nat.le_refl _) (by simp) ?_; (case hd => rfl); (case hg => rfl); (case hr => first | (go_simp; done) | (go_simp; rfl)); (case hp => exact (Reps.one (show Kd.M (Kd.int .i64) _ _ _ 5 [.int .i64 5] from rfl) (Reps.one (show Kd.M (Kd.int .i64) _ _ _ 3 [.int .i64 3] from rfl) (Reps.one (show Kd.M (Kd.int .i64) _ _ _ 0 [.int .i64 0] from rfl) (Reps.none _ _))))); intro v148 w7 ho8 hb hg_ hnew_; clear hg_ hnew_; (first | rw [← Ny147.out] at ho8 | (simp only [Int.reduceToNat] at ho8; rw [← Ny147.out] at ho8)); have HO149 := Aside0.mk (Kd.R_lower ho8 (below_size (bw HB))); replace BK146 := Aside0.mk (blk_below (g := gb146) (o := .cells #[.int .i64 t143, .int .i64 t144] 35 (0, 0)) (by refine pe ?_; refine blk_put (cs := #[.int .i64 t143, .int .i64 0]) ?_ 1 _ rfl; refine pe ?_; refine blk_put (cs := #[.int .i64 0, .int .i64 0]) ?_ 0 _ rfl; refine pe ?_; exact BK146.out) hb); replace HB := wb HB hb; clear hb ho8; obtain ⟨Ao9, co9, eo9⟩ := Kd.R_slice HO149.out; subst eo9) | ((with_reducible refine gate_callee (f := 15) rfl ?_); refine gl (some 11) Try.func15 #[.int .i64 3, .slice Ao9 y147.length co9] ?_; (with_reducible refine (ratio_Apportion.calls 3 _ _ y147 t150 t151 _ ?side1 ?side2 A2.out).mono ?_); (case side1 => repeat (first | exact (Kd.R_reads' HO149.out).2.2 | (with_reducible refine Kd.C_alloc ?_ _) | (with_reducible refine Kd.C_drewN ?_ _) | (with_reducible refine Kd.C_drew ?_))); (case side2 => exact (Kd.R_reads' HO149.out).2.1); rintro e w10 ⟨v152, rfl, ho0, hb⟩; refine ⟨_, rfl, ?_⟩; have HO153 := Aside0.mk (Kd.R_lower (Kd.R_new' ho0 (Kd.R_lt (by (with_reducible repeat (first | apply Kd.R_alloc | apply Kd.R_drewN | apply Kd.R_drew)); exact HO149.out))) (below_size (bw HB))); replace HO149 := Aside0.mk (Kd.R_elder' (by (with_reducible repeat (first | apply Kd.R_alloc | apply Kd.R_drewN | apply Kd.R_drew)); exact HO149.out) (Kd.R_base ho0) hb); replace BK146 := kb BK146 hb; replace HB := wb HB hb; (try clear hb); (try clear hb2); (try clear hk); (try clear hi); (try clear ho0)))
 (try simp only [Act.put, List.setIfInBounds_toArray, List.set_cons_zero, List.set_cons_succ]); have H := HC3.out; clear HC3
 by_cases c11 : t145 = 0
 ·rw [if_pos c11] at H; have c11b0 : (t145 == 0) = true := beq_iff_eq.mpr c11; have c11b1 : (t145 != 0) = false := bne_eq_false_iff_eq.mpr c11; clear c11
  (first | rw [c11b0] | (simp only [i64_w, i32_w]; rw [c11b0]) | skip)
  by_cases c12 : (t143 == (-3) && (t144 == 2)) = true
  ·rw [if_pos c12] at H; have c12b0 : (t143 == (-3) && (t144 == 2)) = true := c12; (try (have c12b1 : decide (t143 = (-3) && (t144 == 2)) = true := by simpa using c12)); (try (have c12b2 : (t143 == (-3) && (t144 == 2)) = true := by simpa using c12)); clear c12
   by_cases c13 : t151 = 0
   ·rw [if_pos c13] at H; have c13b0 : (t151 == 0) = true := beq_iff_eq.mpr c13; have c13b1 : (t151 != 0) = false := bne_eq_false_iff_eq.mpr c13; clear c13
    by_cases c14 : (t150.length : Int) = 3
    ·rw [if_pos c14] at H; have c14b0 : ((t150.length : Int) == 3) = true := beq_iff_eq.mpr c14; have c14b1 : ((t150.length : Int) != 3) = false := bne_eq_false_iff_eq.mpr c14; clear c14
     by_cases c15 : 0 < (t150.length : Int)
     ·rw [if_pos c15] at H; have c15b0 : decide (0 < (t150.length : Int)) = true := decide_eq_true c15; have c15b1 : decide (0 < t150.length) = true := decide_eq_true (by omega); clear c15
      by_cases c16 : (rd t150 0) = 2
      ·rw [if_pos c16] at H; have c16b0 : ((rd t150 0) == 2) = true := beq_iff_eq.mpr c16; have c16b1 : ((rd t150 0) != 2) = false := bne_eq_false_iff_eq.mpr c16; clear c16
       by_cases c17 : 1 < (t150.length : Int)
       ·rw [if_pos c17] at H; have c17b0 : decide (1 < (t150.length : Int)) = true := decide_eq_true c17; have c17b1 : decide (1 < t150.length) = true := decide_eq_true (by omega); clear c17
        by_cases c18 : (rd t150 1) = 1
        ·rw [if_pos c18] at H; have c18b0 : ((rd t150 1) == 1) = true := beq_iff_eq.mpr c18; have c18b1 : ((rd t150 1) != 1) = false := bne_eq_false_iff_eq.mpr c18; clear c18
         by_cases c19 : 2 < (t150.length : Int)
         ·rw [if_pos c19] at H; have c19b0 : decide (2 < (t150.length : Int)) = true := decide_eq_true c19; have c19b1 : decide (2 < t150.length) = true := decide_eq_true (by omega); clear c19; obtain rfl := Option.some.inj H; have hcz20_0 : w10.cell? ⟨gb146, 0, none⟩ = some (.int .i64 t143) := bc BK146 0; have hcz20_1 : w10.cell? ⟨gb146, 1, none⟩ = some (.int .i64 t144) := bc BK146 1; have hfz20_0 := blk_frozen BK146.out 0; have hfz20_1 := blk_frozen BK146.out 1; obtain ⟨Ao21, co21, eo21⟩ := Kd.R_slice HO153.out; subst eo21; have p154 : 0 ≤ (0 : Int) := (by omega); have q154 : 0 < (t150.length : Int) := of_decide_eq_true (by first | (with_reducible assumption) | assumption); obtain ⟨ad154, e154, hx154_0⟩ := Kd.at_int (Kd.R_reads' HO153.out).2.2 0 p154 q154
          cases e154
          have qi154 : (0 < t150.length) = True := eq_true (by omega); (try rw [show ((0 : Int)).toNat = 0 from rfl] at hx154_0); (try rw [Addr.add_zero'] at hx154_0); replace p154 := eq_true p154; replace q154 := eq_true q154; have p155 : 0 ≤ (1 : Int) := (by omega); have q155 : 1 < (t150.length : Int) := of_decide_eq_true (by first | (with_reducible assumption) | assumption); obtain ⟨ad155, e155, hx155_0⟩ := Kd.at_int (Kd.R_reads' HO153.out).2.2 1 p155 q155; obtain rfl : ad154 = ad155 := (by injection e155); (try simp only [show (1 : Int).toNat = 1 from rfl, Nat.reduceMul, Nat.reduceEqDiff, Go.Addr.add, ↓reduceIte] at hx155_0); have qi155 : (1 < t150.length) = True := eq_true (by omega); (try rw [show ((1 : Int)).toNat = 1 from rfl] at hx155_0); replace p155 := eq_true p155; replace q155 := eq_true q155; have p156 : 0 ≤ (2 : Int) := (by omega); have q156 : 2 < (t150.length : Int) := of_decide_eq_true (by first | (with_reducible assumption) | assumption); obtain ⟨ad156, e156, hx156_0⟩ := Kd.at_int (Kd.R_reads' HO153.out).2.2 2 p156 q156; obtain rfl : ad154 = ad156 := (by injection e156); (try simp only [show (2 : Int).toNat = 2 from rfl, Nat.reduceMul, Nat.reduceEqDiff, Go.Addr.add, ↓reduceIte] at hx156_0); have qi156 : (2 < t150.length) = True := eq_true (by omega); (try rw [show ((2 : Int)).toNat = 2 from rfl] at hx156_0); replace p156 := eq_true p156; replace q156 := eq_true q156; (go_wp2); (go_ret); exact ⟨by first | rfl | (simp [errW_none, errW_some] <;> rfl) | (simp [*, errW_none, errW_some] <;> rfl), bw HB⟩
         ·rw [if_neg c19] at H; exact absurd H (by simp)
        ·rw [if_neg c18] at H; have c18b0 : ((rd t150 1) == 1) = false := beq_eq_false_iff_ne.mpr c18; have c18b1 : ((rd t150 1) != 1) = true := bne_iff_ne.mpr c18; obtain rfl := Option.some.inj H; have hcz22_0 : w10.cell? ⟨gb146, 0, none⟩ = some (.int .i64 t143) := bc BK146 0; have hcz22_1 : w10.cell? ⟨gb146, 1, none⟩ = some (.int .i64 t144) := bc BK146 1; have hfz22_0 := blk_frozen BK146.out 0; have hfz22_1 := blk_frozen BK146.out 1; obtain ⟨Ao23, co23, eo23⟩ := Kd.R_slice HO153.out; subst eo23; have p154 : 0 ≤ (0 : Int) := (by omega); have q154 : 0 < (t150.length : Int) := of_decide_eq_true (by first | (with_reducible assumption) | assumption); obtain ⟨ad154, e154, hx154_0⟩ := Kd.at_int (Kd.R_reads' HO153.out).2.2 0 p154 q154
         cases e154
         have qi154 : (0 < t150.length) = True := eq_true (by omega); (try rw [show ((0 : Int)).toNat = 0 from rfl] at hx154_0); (try rw [Addr.add_zero'] at hx154_0); replace p154 := eq_true p154; replace q154 := eq_true q154; have p155 : 0 ≤ (1 : Int) := (by omega); have q155 : 1 < (t150.length : Int) := of_decide_eq_true (by first | (with_reducible assumption) | assumption); obtain ⟨ad155, e155, hx155_0⟩ := Kd.at_int (Kd.R_reads' HO153.out).2.2 1 p155 q155; obtain rfl : ad154 = ad155 := (by injection e155); (try simp only [show (1 : Int).toNat = 1 from rfl, Nat.reduceMul, Nat.reduceEqDiff, Go.Addr.add, ↓reduceIte] at hx155_0); have qi155 : (1 < t150.length) = True := eq_true (by omega); (try rw [show ((1 : Int)).toNat = 1 from rfl] at hx155_0); replace p155 := eq_true p155; replace q155 := eq_true q155; (go_wp2); (go_ret); exact ⟨by first | rfl | (simp [errW_none, errW_some] <;> rfl) | (simp [*, errW_none, errW_some] <;> rfl), bw HB⟩
       ·rw [if_neg c17] at H; exact absurd H (by simp)
      ·rw [if_neg c16] at H; have c16b0 : ((rd t150 0) == 2) = false := beq_eq_false_iff_ne.mpr c16; have c16b1 : ((rd t150 0) != 2) = true := bne_iff_ne.mpr c16; obtain rfl := Option.some.inj H; have hcz24_0 : w10.cell? ⟨gb146, 0, none⟩ = some (.int .i64 t143) := bc BK146 0; have hcz24_1 : w10.cell? ⟨gb146, 1, none⟩ = some (.int .i64 t144) := bc BK146 1; have hfz24_0 := blk_frozen BK146.out 0; have hfz24_1 := blk_frozen BK146.out 1; obtain ⟨Ao25, co25, eo25⟩ := Kd.R_slice HO153.out; subst eo25; have p154 : 0 ≤ (0 : Int) := (by omega); have q154 : 0 < (t150.length : Int) := of_decide_eq_true (by first | (with_reducible assumption) | assumption); obtain ⟨ad154, e154, hx154_0⟩ := Kd.at_int (Kd.R_reads' HO153.out).2.2 0 p154 q154
       cases e154
       have qi154 : (0 < t150.length) = True := eq_true (by omega); (try rw [show ((0 : Int)).toNat = 0 from rfl] at hx154_0); (try rw [Addr.add_zero'] at hx154_0); replace p154 := eq_true p154; replace q154 := eq_true q154; (go_wp2); (go_ret); exact ⟨by first | rfl | (simp [errW_none, errW_some] <;> rfl) | (simp [*, errW_none, errW_some] <;> rfl), bw HB⟩
     ·rw [if_neg c15] at H; exact absurd H (by simp)
    ·rw [if_neg c14] at H; have c14b0 : ((t150.length : Int) == 3) = false := beq_eq_false_iff_ne.mpr c14; have c14b1 : ((t150.length : Int) != 3) = true := bne_iff_ne.mpr c14; obtain rfl := Option.some.inj H; have hcz26_0 : w10.cell? ⟨gb146, 0, none⟩ = some (.int .i64 t143) := bc BK146 0; have hcz26_1 : w10.cell? ⟨gb146, 1, none⟩ = some (.int .i64 t144) := bc BK146 1; have hfz26_0 := blk_frozen BK146.out 0; have hfz26_1 := blk_frozen BK146.out 1; obtain ⟨Ao27, co27, eo27⟩ := Kd.R_slice HO153.out; subst eo27; (go_wp2); (go_ret); exact ⟨by first | rfl | (simp [errW_none, errW_some] <;> rfl) | (simp [*, errW_none, errW_some] <;> rfl), bw HB⟩
   ·rw [if_neg c13] at H; have c13b0 : (t151 == 0) = false := beq_eq_false_iff_ne.mpr c13; have c13b1 : (t151 != 0) = true := bne_iff_ne.mpr c13; obtain rfl := Option.some.inj H; have hcz28_0 : w10.cell? ⟨gb146, 0, none⟩ = some (.int .i64 t143) := bc BK146 0; have hcz28_1 : w10.cell? ⟨gb146, 1, none⟩ = some (.int .i64 t144) := bc BK146 1; have hfz28_0 := blk_frozen BK146.out 0; have hfz28_1 := blk_frozen BK146.out 1; (go_wp2); (go_ret); exact ⟨by first | rfl | (simp [errW_none, errW_some] <;> rfl) | (simp [*, errW_none, errW_some] <;> rfl), bw HB⟩
  ·rw [if_neg c12] at H; (have c12b0 : (t143 == (-3) && (t144 == 2)) = false := by simpa using c12); (try (have c12b1 : decide (t143 = (-3) && (t144 == 2)) = false := by simpa using c12)); (try (have c12b2 : (t143 == (-3) && (t144 == 2)) = false := by simpa using c12)); (try (have c12b3 : ¬ (t143 = (-3) && (t144 == 2)) := by simpa using c12)); clear c12; obtain rfl := Option.some.inj H; have hcz29_0 : w10.cell? ⟨gb146, 0, none⟩ = some (.int .i64 t143) := bc BK146 0; have hcz29_1 : w10.cell? ⟨gb146, 1, none⟩ = some (.int .i64 t144) := bc BK146 1; have hfz29_0 := blk_frozen BK146.out 0; have hfz29_1 := blk_frozen BK146.out 1; (go_wp2); (go_ret); exact ⟨by first | rfl | (simp [errW_none, errW_some] <;> rfl) | (simp [*, errW_none, errW_some] <;> rfl), bw HB⟩
 ·rw [if_neg c11] at H; have c11b0 : (t145 == 0) = false := beq_eq_false_iff_ne.mpr c11; have c11b1 : (t145 != 0) = true := bne_iff_ne.mpr c11
  (first | rw [c11b0] | (simp only [i64_w, i32_w]; rw [c11b0]) | skip)
  obtain rfl := Option.some.inj H; (go_wp2); (go_ret); exact ⟨by first | rfl | (simp [errW_none, errW_some] <;> rfl) | (simp [*, errW_none, errW_some] <;> rfl), bw HB⟩

end Go.Proofs.Ytcbohbeipgcfhaa.G

-- Printed by gp.py (a program of this session's own, over the kit's printer) out of the translation; Lean checks it.
namespace Go.Proofs.Ytcbohbeipgcfhaa.G
open Go.Proofs.Ytcbohbeipgcfhaa.Given Go.Proofs.Ytcbohbeipgcfhaa.Short
open Go.RowKit Go.Proofs.YtcbohbeipgcfhaaW.PrintWords Go.Proofs.YtcbohbeipgcfhaaW.PrintLast Go.Proofs.YtcbohbeipgcfhaaW.PrintMore
attribute [local go_sem] max2_int min2_int max_two min_two max_three min_three max_four min_four   -- for this text's walks alone
set_option linter.unusedVariables false
set_option linter.unusedSimpArgs false

/-- A state of type 53 at block g of W; what its slices lead to came in by w0. -/
def IsS53 (w0 W : World) (g : Nat) (f0 : List Int) (f1 : Int) : Prop := ∃ A0 c0, W.heap[g]? = some (.cells #[.slice A0 f0.length c0, .int .i64 f1] 53 (0, 0)) ∧ w0.heap.size ≤ g ∧ Kd.C (Kd.int .i64) w0 A0 f0.length f0
theorem IsS53.grown {w0 W : World} {g : Nat} {f0 : List Int} {f1 : Int} {W1 : World} {row : Option Nat} (h : IsS53 w0 W g f0 f1) (hw : W.grownBy W1 row) (hne : some g ≠ row) : IsS53 w0 W1 g f0 f1 := by
 obtain ⟨A0, c0, hb, hg, hr0⟩ := h; exact ⟨A0, c0, blk_grown hb hw hne, hg, hr0⟩
theorem IsS53.own_neN {w0 W : World} {g : Nat} {f0 : List Int} {f1 : Int} {α : Type} {d : Kd α} {e : Nat} {base : Nat} {ok : Nat → Prop} {v : Value} {xs : List α} (h : IsS53 w0 W g f0 f1) (ho : Kd.N d e W base ok v xs) (ht : e ≠ 53) : some g ≠ v.ownBlock := by
 obtain ⟨A0, c0, hb, hg, hr0⟩ := h; exact Kd.N_ne ho hb ht
theorem IsS53.fresh {w0 W : World} {g : Nat} {f0 : List Int} {f1 : Int} (h : IsS53 w0 W g f0 f1) : ∀ k, W.heap.size ≤ k → k ≠ g := by
 obtain ⟨A0, c0, hb, hg, hr0⟩ := h; exact Kd.freshB hb
theorem IsS53.kept {w0 W : World} {g : Nat} {f0 : List Int} {f1 : Int} {W1 : World} {S : Nat → Prop} (h : IsS53 w0 W g f0 f1) (hk : Kept W W1 S) (hne : ¬ S g) : IsS53 w0 W1 g f0 f1 := by
 obtain ⟨A0, c0, hb, hg, hr0⟩ := h; exact ⟨A0, c0, blk_kept hb hk hne, hg, hr0⟩
theorem IsS53.below {w0 W : World} {g : Nat} {f0 : List Int} {f1 : Int} {W1 : World} (h : IsS53 w0 W g f0 f1) (hw : Below W.heap.size W W1) : IsS53 w0 W1 g f0 f1 := h.grown (grown_of_below hw none) (by simp)
theorem IsS53.alloc {w0 W : World} {g : Nat} {f0 : List Int} {f1 : Int} (h : IsS53 w0 W g f0 f1) (o : Obj) : IsS53 w0 (W.alloc o) g f0 f1 := h.below (below_alloc (Below.refl _ _) o)
theorem IsS53.drewN {w0 W : World} {g : Nat} {f0 : List Int} {f1 : Int} (h : IsS53 w0 W g f0 f1) (m : Nat) : IsS53 w0 (W.drewN m) g f0 f1 := h
theorem IsS53.drew {w0 W : World} {g : Nat} {f0 : List Int} {f1 : Int} (h : IsS53 w0 W g f0 f1) : IsS53 w0 W.drew g f0 f1 := h
theorem IsS53.at_ {w0 W : World} {g : Nat} {f0 : List Int} {f1 : Int} {w' : World} {m : Nat} (hq : W.drewN m = w') (h : IsS53 w0 W g f0 f1) : IsS53 w0 w' g f0 f1 := by subst hq; exact IsS53.drewN h m
theorem IsS53.apart {w0 W : World} {g : Nat} {f0 : List Int} {f1 : Int} {α : Type} {d : Kd α} {e : Nat} {base : Nat} {ok : Nat → Prop} {v : Value} {xs : List α} (h : IsS53 w0 W g f0 f1) (ho : d.R e W base ok v xs) (ht : ∀ q, q ∈ e :: d.E → q ≠ 53) : d.R e W base (fun k => ok k ∧ k ≠ g) v xs := by
 obtain ⟨A0, c0, hb, hg, hr0⟩ := h; exact Kd.R_types ho hb ht
theorem IsS53.own_ne {w0 W : World} {g : Nat} {f0 : List Int} {f1 : Int} {α : Type} {d : Kd α} {e : Nat} {base : Nat} {ok : Nat → Prop} {v : Value} {xs : List α} (h : IsS53 w0 W g f0 f1) (ho : d.R e W base ok v xs) (ht : e ≠ 53) : some g ≠ v.ownBlock := by
 obtain ⟨A0, c0, hb, hg, hr0⟩ := h; exact Kd.R_ne ho hb ht
theorem IsS53.apartQ {w0 W : World} {g : Nat} {f0 : List Int} {f1 : Int} {α : Type} {d : Kd α} {e : Nat} {base : Nat} {ok : Nat → Prop} {v : Value} {xs : List α} (h : IsS53 w0 W g f0 f1) (ho : d.Q e W base ok v xs) (ht : ∀ q, q ∈ e :: d.E → q ≠ 53) : d.Q e W base (fun k => ok k ∧ k ≠ g) v xs := by
 obtain ⟨A0, c0, hb, hg, hr0⟩ := h; exact Kd.Q_types ho hb ht
theorem IsS53.own_neQ {w0 W : World} {g : Nat} {f0 : List Int} {f1 : Int} {α : Type} {d : Kd α} {e : Nat} {base : Nat} {ok : Nat → Prop} {v : Value} {xs : List α} (h : IsS53 w0 W g f0 f1) (ho : d.Q e W base ok v xs) (ht : e ≠ 53) : some g ≠ v.ownBlock := by
 obtain ⟨A0, c0, hb, hg, hr0⟩ := h; exact Kd.Q_ne ho hb ht
theorem IsS53.apartS {w0 W : World} {g : Nat} {f0 : List Int} {f1 : Int} {α : Type} {d : Kd α} {e : Nat} {base : Nat} {ok : Nat → Prop} {v : Value} {xs : List α} (h : IsS53 w0 W g f0 f1) (ho : d.S e W base ok v xs) (ht : ∀ q, q ∈ e :: d.E → q ≠ 53) : d.S e W base (fun k => ok k ∧ k ≠ g) v xs := by
 obtain ⟨A0, c0, hb, hg, hr0⟩ := h; exact Kd.S_types ho hb ht
theorem IsS53.own_neS {w0 W : World} {g : Nat} {f0 : List Int} {f1 : Int} {α : Type} {d : Kd α} {e : Nat} {base : Nat} {ok : Nat → Prop} {v : Value} {xs : List α} (h : IsS53 w0 W g f0 f1) (ho : d.S e W base ok v xs) (ht : e ≠ 53) : some g ≠ v.ownBlock := by
 obtain ⟨A0, c0, hb, hg, hr0⟩ := h; exact Kd.S_ne ho hb ht
theorem IsS53.lt {w0 W : World} {g : Nat} {f0 : List Int} {f1 : Int} (h : IsS53 w0 W g f0 f1) : g < W.heap.size := by
 obtain ⟨A0, c0, hb, hg, hr0⟩ := h; exact blk_lt hb
theorem IsS53.ge {w0 W : World} {g : Nat} {f0 : List Int} {f1 : Int} (h : IsS53 w0 W g f0 f1) : w0.heap.size ≤ g := by
 obtain ⟨A0, c0, hb, hg, hr0⟩ := h; exact hg
theorem IsS53.ne_blk {w0 W : World} {g : Nat} {f0 : List Int} {f1 : Int} {a : Nat} {cs : Array Value} {t : TypeId} {fr : Nat × Nat} (h : IsS53 w0 W g f0 f1) (hb2 : W.heap[a]? = some (.cells cs t fr)) (ht : t ≠ 53) : g ≠ a := by
 obtain ⟨A0, c0, hb, hg, hr0⟩ := h; rintro rfl; rw [hb] at hb2; injection hb2 with hb2; injection hb2 with _ ht2; exact ht ht2.symm
theorem IsS53.far {w0 W : World} {g : Nat} {f0 : List Int} {f1 : Int} {p : Addr} (h : IsS53 w0 W g f0 f1) (hne : g ≠ p.block) (u : Value) : IsS53 w0 (W.setCell p u) g f0 f1 := by
 obtain ⟨A0, c0, hb, hg, hr0⟩ := h; exact ⟨A0, c0, blk_far hb hne u, hg, hr0⟩
theorem cellS53_0 {W : World} {g : Nat} {A0 : Option Addr} {c0 : Nat} {f0 : List Int} {f1 : Int} (h : W.heap[g]? = some (.cells #[.slice A0 f0.length c0, .int .i64 f1] 53 (0, 0))) : W.cell? ⟨g, 0, none⟩ = some (.slice A0 f0.length c0) := (blk_cell h 0).trans rfl
theorem cellS53_1 {W : World} {g : Nat} {A0 : Option Addr} {c0 : Nat} {f0 : List Int} {f1 : Int} (h : W.heap[g]? = some (.cells #[.slice A0 f0.length c0, .int .i64 f1] 53 (0, 0))) : W.cell? ⟨g, 1, none⟩ = some (.int .i64 f1) := (blk_cell h 1).trans rfl
theorem IsS53.set_1 {w0 W : World} {g : Nat} {f0 : List Int} {f1 : Int} (h : IsS53 w0 W g f0 f1) (x : Int) : IsS53 w0 (W.setCell ⟨g, 1, none⟩ (.int .i64 x)) g f0 x := by
 obtain ⟨A0, c0, hb, hg, hr0⟩ := h; exact ⟨A0, c0, by simpa using blk_set hb 1 (.int .i64 x), hg, hr0⟩
theorem IsS53.new (w0 W : World) (A0 : Option Addr) (c0 : Nat) (f0 : List Int) (f1 : Int) (hB : Below w0.heap.size w0 W) (hr0 : Kd.C (Kd.int .i64) w0 A0 f0.length f0) : IsS53 w0 (W.alloc (.cells #[.slice A0 f0.length c0, .int .i64 f1] 53)) W.heap.size f0 f1 := ⟨A0, c0, by simpa using heap_alloc_new W _, hB.size, hr0⟩

/-! ### mk_New: function 19 -/
def mk_New.f (l0 : List Int) : Option (List Int × Int) := if (l0.length : Int) > 600 then (if 600 ≤ (l0.length : Int) then (some (l0.take 600, 0)) else (none)) else (some (l0, 0))
set_option maxHeartbeats 8000000 in
set_option maxRecDepth 100000 in
theorem mk_New.calls (A0 : Option Addr) (c0 : Nat) (l0 : List Int) (r1 : List Int) (r2 : Int) (w0 w : World) (hB : Below w0.heap.size w0 w) (hr0 : Kd.C (Kd.int .i64) w0 A0 l0.length l0) (hc0 : l0.length ≤ c0) (h : mk_New.f l0 = some (r1, r2)) :
  Calls Try.prog 19 #[.slice A0 l0.length c0] w fun e w' => ∃ g_ : Nat, e = .returned (.pointer (some ⟨g_, 0, none⟩)) ∧ IsS53 w0 w' g_ r1 r2 ∧ Below w0.heap.size w0 w' ∧ Below w.heap.size w w' := by
 have hu53 := Try.underlying53; have HR0 := Aside0.mk hr0; have HC0 := Aside0.mk hc0; clear hr0 hc0; have HBW := Aside0.mk (Below.refl w.heap.size w); have HW0 := Aside0.mk hB.size; have HB := Aside0.mk hB; clear hB; have H : (if (l0.length : Int) > 600 then (if 600 ≤ (l0.length : Int) then (some (l0.take 600, 0)) else (none)) else (some (l0, 0))) = some (r1, r2) := h; clear h
 by_cases c2 : (l0.length : Int) > 600
 ·rw [if_pos c2] at H; have c2b0 : decide (600 < (l0.length : Int)) = true := decide_eq_true c2; have c2b1 : decide (600 < l0.length) = true := decide_eq_true (by omega); clear c2
  by_cases c3 : 600 ≤ (l0.length : Int)
  ·rw [if_pos c3] at H; have c3b0 := eq_true c3; have c3b1 : decide (600 ≤ (l0.length : Int)) = true := decide_eq_true c3; clear c3; simp only [Option.some.injEq, Prod.mk.injEq] at H; obtain ⟨rfl, rfl⟩ := H; obtain ⟨i04, hi04, _, hsz4, _⟩ := info_parts info3; obtain ⟨hcut4, hA4, hC4⟩ := print_take_of (P := Try.prog) (Value.int .i64) 0 22 3 .i64 Try.underlying22 hi04 hsz4 A0 c0 l0 600 (by omega) (of_decide_eq_true (by first | (with_reducible assumption) | assumption)) HC0.out; have HR167 := Aside0.mk (Kd.C_of_reads (h1 := fun _ => rfl) (hA4 _ (Kd.reads_of_C HR0.out))); have HC167 := Aside0.mk hC4; clear hA4 hC4 hi04 hsz4; (go_enter Try.func19, Try.ntmps19); (go_wp2_with (first | ((with_reducible refine gate_dst (N := 10) rfl ?_); refine bx (N := 10) (cs := #[.slice A0 (l0.take 600).length c0, .int .i64 0]) (t := 53) ?_; intro gb168 hg w5 hbox hb; have BK168 := Aside0.mk (hbox); have GW168 := gs HBW hg; have GE168 := Aside0.mk ((Nat.le_trans HW0.out (by rw [hg]; exact (below_size (bw HBW)) : w.heap.size ≤ gb168) : w0.heap.size ≤ gb168)); replace HBW := Aside0.mk (below_step HBW.out hb); replace HB := wb HB hb; clear hb hbox hg))); (go_ret); exact ⟨_, rfl, (show IsS53 w0 _ gb168 (l0.take 600) 0 from ⟨_, _, by refine pe ?_; exact BK168.out, GE168.out, HR167.out⟩), bw HB, bw HBW⟩
  ·rw [if_neg c3] at H; exact absurd H (by simp)
 ·rw [if_neg c2] at H; have c2b0 : decide (600 < (l0.length : Int)) = false := decide_eq_false c2; have c2b1 : decide (600 < l0.length) = false := decide_eq_false (by omega); clear c2; simp only [Option.some.injEq, Prod.mk.injEq] at H; obtain ⟨rfl, rfl⟩ := H; (go_enter Try.func19, Try.ntmps19); (go_wp2_with (first | ((with_reducible refine gate_dst (N := 10) rfl ?_); refine bx (N := 10) (cs := #[.slice A0 l0.length c0, .int .i64 0]) (t := 53) ?_; intro gb169 hg w6 hbox hb; have BK169 := Aside0.mk (hbox); have GW169 := gs HBW hg; have GE169 := Aside0.mk ((Nat.le_trans HW0.out (by rw [hg]; exact (below_size (bw HBW)) : w.heap.size ≤ gb169) : w0.heap.size ≤ gb169)); replace HBW := Aside0.mk (below_step HBW.out hb); replace HB := wb HB hb; clear hb hbox hg))); (go_ret); exact ⟨_, rfl, (show IsS53 w0 _ gb169 l0 0 from ⟨_, _, by refine pe ?_; exact BK169.out, GE169.out, HR0.out⟩), bw HB, bw HBW⟩

end Go.Proofs.Ytcbohbeipgcfhaa.G
