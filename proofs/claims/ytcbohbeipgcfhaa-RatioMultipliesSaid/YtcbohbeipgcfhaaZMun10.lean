/- Texts of this claim laid together: Gf30. -/
import Derived.Test.YtcbohbeipgcfhaaShortC
import Derived.Test.YtcbohbeipgcfhaaG0
import Derived.Test.YtcbohbeipgcfhaaZMun9
import Derived.Test.YtcbohbeipgcfhaaZMun5
-- Printed by gp.py (a program of this session's own, over the kit's printer) out of the translation; Lean checks it.
namespace Go.Proofs.Ytcbohbeipgcfhaa.G
open Go.Proofs.Ytcbohbeipgcfhaa.Given Go.Proofs.Ytcbohbeipgcfhaa.Short
open Go.RowKit Go.Proofs.YtcbohbeipgcfhaaW.PrintWords Go.Proofs.YtcbohbeipgcfhaaW.PrintLast Go.Proofs.YtcbohbeipgcfhaaW.PrintMore
attribute [local go_sem] max2_int min2_int max_two min_two max_three min_three max_four min_four   -- for this text's walks alone
set_option linter.unusedVariables false
set_option linter.unusedSimpArgs false

/-! ### r1_Div: function 30 -/
def r1_Div.j0 : Nat → Bool → Int → Int → Int → Int → Option (Int × Int × Int)
 | 0, _, _, _, _, _ => none
 | k + 1, x13, x399000, x399001, x400000, x400001 => if x13 = true then (some (0, 0, 1)) else (if x400000 = 0 then (some (0, 0, 2)) else ((r1_Size.f x399000).bind fun t403 => ((r1_Size.f x400001).bind fun t404 => ((r1_Product.f t403 t404).bind fun bt405 => ((r1_Size.f x399001).bind fun t407 => ((r1_Size.f x400000).bind fun t408 => ((r1_Product.f t407 t408).bind fun bt409 => ((r1_Reduce.f k ((decide (x399000 < 0)) != (decide (x400000 < 0))) bt405.1 bt405.2 bt409.1 bt409.2).bind fun bt411 => (some (bt411.1, bt411.2.1, bt411.2.2))))))))))
def r1_Div.f (k : Nat) (a0_0 : Int) (a0_1 : Int) (a1_0 : Int) (a1_1 : Int) : Option (Int × Int × Int) := (r1_Valid.f k a0_0 a0_1).bind fun t401 => (if t401 = true then ((r1_Valid.f k a1_0 a1_1).bind fun t402 => (r1_Div.j0 k (!t402) a0_0 a0_1 a1_0 a1_1)) else (r1_Div.j0 k true a0_0 a0_1 a1_0 a1_1))
theorem r1_Div.mono_l : ∀ k, (∀ y0 y1 y2 y3 y4, LeO (r1_Div.j0 k y0 y1 y2 y3 y4) (r1_Div.j0 (k + 1) y0 y1 y2 y3 y4))
 | 0 => fun _ _ _ _ _ r h => by simp [r1_Div.j0] at h
 | k + 1 => by
  have ih0 := r1_Div.mono_l k
  ·intro y0 y1 y2 y3 y4; unfold r1_Div.j0
   repeat' first
   | (with_reducible exact ih0 _ _ _ _ _)
   | (with_reducible exact r1_Reduce.mono _ _ _ _ _ _)
   | (with_reducible exact r1_Valid.mono _ _ _)
   | (with_reducible exact LeO.refl _)
   | (with_reducible exact LeO.none _)
   | (with_reducible refine LeO.ite ?_ ?_)
   | (with_reducible refine LeO.bind ?_ (fun _ => ?_))
   | exact ih0 _ _ _ _ _
   | exact r1_Reduce.mono _ _ _ _ _ _
   | exact r1_Valid.mono _ _ _
   | exact LeO.none _
   | refine LeO.ite ?_ ?_
   | refine LeO.bind ?_ (fun _ => ?_)
theorem r1_Div.mono : ∀ a0 a1 a2 a3 k, LeO (r1_Div.f k a0 a1 a2 a3) (r1_Div.f (k + 1) a0 a1 a2 a3) := by
 intro a0 a1 a2 a3 k; have ih0 := r1_Div.mono_l k; unfold r1_Div.f
 repeat' first
   | (with_reducible exact ih0 _ _ _ _ _)
   | (with_reducible exact r1_Reduce.mono _ _ _ _ _ _)
   | (with_reducible exact r1_Valid.mono _ _ _)
   | (with_reducible exact LeO.refl _)
   | (with_reducible exact LeO.none _)
   | (with_reducible refine LeO.ite ?_ ?_)
   | (with_reducible refine LeO.bind ?_ (fun _ => ?_))
   | exact ih0 _ _ _ _ _
   | exact r1_Reduce.mono _ _ _ _ _ _
   | exact r1_Valid.mono _ _ _
   | exact LeO.none _
   | refine LeO.ite ?_ ?_
   | refine LeO.bind ?_ (fun _ => ?_)
def r1_Div.T5 : Bool × List (List Nat × List Nat) := (true, [([], []), ([0], [0]), ([1], [1]), ([], []), ([3], [3]), ([4], [4]), ([2, 5], [2, 5]), ([], []), ([7], [7]), ([8], [8]), ([], []), ([10], [10]), ([11, 9], [11]), ([9, 12, 12], [9, 12]), ([], []), ([14], [14]), ([15, 13], [15]), ([], []), ([17], [17]), ([18, 16], [18]), ([16, 19, 19], [16, 19]), ([6, 13, 20, 20], [6, 13, 20]), ([21], [21]), ([21], [21]), ([22, 21, 0, 1, 2, 3, 4, 5, 6, 7, 8, 9, 10, 11, 12, 13, 14, 15, 16, 17, 18, 19, 20, 21, 22, 23], [22]), ([23, 24, 0, 1, 2, 3, 4, 5, 6, 7, 8, 9, 10, 11, 12, 13, 14, 15, 16, 17, 18, 19, 20, 21, 22, 23, 24], [23])])
def r1_Div.B5 : List Nat := [0, 1, 3, 0, 8, 24, 63, 0, 128, 384, 0, 1024, 3968, 8064, 0, 16384, 65408, 0, 131072, 524160, 1048448, 2097151, 4194303, 4194303, 16777215, 33554431]
theorem r1_Div.tab5 : rtab .any (opsOf Try.f30 5) = r1_Div.T5 := by kernel_rfl
theorem r1_Div.bits5 : waitsOk r1_Div.T5.2 r1_Div.B5 = true := by kernel_rfl
set_option maxHeartbeats 8000000 in
set_option maxRecDepth 100000 in
theorem r1_Div.calls (k : Nat) (a0_0 : Int) (a0_1 : Int) (a1_0 : Int) (a1_1 : Int) (r1 : Int) (r2 : Int) (r3 : Int) (w : World) (h : r1_Div.f k a0_0 a0_1 a1_0 a1_1 = some (r1, r2, r3)) :
  Calls Try.prog 30 #[.agg #[.int .i64 a0_0, .int .i64 a0_1], .agg #[.int .i64 a1_0, .int .i64 a1_1]] w fun e w' => e = .returned (.tuple #[.agg #[.int .i64 r1, .int .i64 r2], .int .i64 r3]) ∧ Below w.heap.size w w' := by
 have hu35 := Try.underlying35; have HB := Aside0.mk (Below.refl w.heap.size w); have H : ((r1_Valid.f k a0_0 a0_1).bind fun t401 => (if t401 = true then ((r1_Valid.f k a1_0 a1_1).bind fun t402 => (r1_Div.j0 k (!t402) a0_0 a0_1 a1_0 a1_1)) else (r1_Div.j0 k true a0_0 a0_1 a1_0 a1_1))) = some (r1, r2, r3) := h; clear h; have HC3 := Aside0.mk H; clear H; go_enter Try.func30, Try.ntmps30
 go_upto_region 1 with (first | ((with_reducible refine gate_dst (N := 2) rfl ?_); refine bx (N := 2) (cs := #[.int .i64 a0_0, .int .i64 a0_1]) (t := 35) ?_; intro gb398 hg w4 hbox hb; have BK398 := Aside0.mk (hbox); have GW398 := gs HB hg; have GE398 := gs HB hg; replace HB := wb HB hb; clear hb hbox hg) | ((with_reducible refine gate_dst (N := 3) rfl ?_); refine bx (N := 3) (cs := #[.int .i64 a1_0, .int .i64 a1_1]) (t := 35) ?_; intro gb399 hg w5 hbox hb; have BK399 := Aside0.mk (hbox); have GW399 := gs HB hg; have GE399 := gs HB hg; have NB398_399 := nl BK398 hg; have NB399_398 := nr BK398 hg; replace BK398 := kb BK398 hb; replace HB := wb HB hb; clear hb hbox hg) | ((with_reducible refine gate_dst (N := 4) rfl ?_); refine bx (N := 4) (cs := #[.int .i64 0, .int .i64 0]) (t := 35) ?_; intro gb400 hg w6 hbox hb; have BK400 := Aside0.mk (hbox); have GW400 := gs HB hg; have GE400 := gs HB hg; have NB398_400 := nl BK398 hg; have NB400_398 := nr BK398 hg; have NB399_400 := nl BK399 hg; have NB400_399 := nr BK399 hg; replace BK398 := kb BK398 hb; replace BK399 := kb BK399 hb; replace HB := wb HB hb; clear hb hbox hg))
 (try simp only [Act.put, List.setIfInBounds_toArray, List.set_cons_zero, List.set_cons_succ])
 go_cut [13] (fun v13 wc => ∃ (kq : Nat) (x13_2 : Bool), v13 = .bool x13_2 ∧ Aside0 (r1_Div.j0 kq x13_2 a0_0 a0_1 a1_0 a1_1 = some (r1, r2, r3)) ∧ Aside0 (kq ≤ k) ∧ Aside0 (wc.heap[gb398]? = some (.cells #[.int .i64 a0_0, .int .i64 a0_1] 35 (0, 0))) ∧ Aside0 (wc.heap[gb399]? = some (.cells #[.int .i64 a1_0, .int .i64 a1_1] 35 (0, 0))) ∧ Aside0 (wc.heap[gb400]? = some (.cells #[.int .i64 0, .int .i64 0] 35 (0, 0))) ∧ Aside0 (Below w.heap.size w wc))
 case first =>
  have H := HC3.out; clear HC3; replace H := Option.bind_eq_some_iff.mp H; obtain ⟨t401, A70, H⟩ := H; (try dsimp only at H); have A7 := Aside0.mk A70; clear A70
  by_cases c8 : t401 = true
  ·subst c8; (have H1 : ((r1_Valid.f k a1_0 a1_1).bind fun t402 => (r1_Div.j0 k (!t402) a0_0 a0_1 a1_0 a1_1)) = some (r1, r2, r3) := by rw [if_pos rfl] at H; exact H); clear H; have H := H1; clear H1; replace H := Option.bind_eq_some_iff.mp H; obtain ⟨t402, A90, H⟩ := H; (try dsimp only at H); have A9 := Aside0.mk A90; clear A90; have H' := Aside0.mk H; clear H; obtain ⟨hnb10, hnc10⟩ := n2 NB398_399; obtain ⟨hnb11, hnc11⟩ := n2 NB398_400; have hcz12_0 : w6.cell? ⟨gb398, 0, none⟩ = some (.int .i64 a0_0) := bc BK398 0; have hcz12_1 : w6.cell? ⟨gb398, 1, none⟩ = some (.int .i64 a0_1) := bc BK398 1; have hfz12_0 := blk_frozen BK398.out 0; have hfz12_1 := blk_frozen BK398.out 1; go_wp2_with (first | ((with_reducible refine gate_callee (f := 25) rfl ?_); refine gl (some 7) Try.func25 #[.agg #[.int .i64 a0_0, .int .i64 a0_1]] ?_; (with_reducible refine (r1_Valid.calls k a0_0 a0_1 true _ A7.out).mono ?_); rintro e w13 ⟨rfl, hb⟩; refine ⟨_, rfl, ?_⟩; replace BK398 := kb BK398 hb; replace BK399 := kb BK399 hb; replace BK400 := kb BK400 hb; replace HB := wb HB hb; (try clear hb); (try clear hb2); (try clear hk); (try clear hi); obtain ⟨hnb14, hnc14⟩ := n2 NB399_400; have hcz15_0 : w13.cell? ⟨gb399, 0, none⟩ = some (.int .i64 a1_0) := bc BK399 0; have hcz15_1 : w13.cell? ⟨gb399, 1, none⟩ = some (.int .i64 a1_1) := bc BK399 1; have hfz15_0 := blk_frozen BK399.out 0; have hfz15_1 := blk_frozen BK399.out 1) | (go_at_call 25; (with_reducible refine (r1_Valid.calls k a1_0 a1_1 t402 _ A9.out).mono ?_); rintro e w16 ⟨rfl, hb⟩; replace BK398 := kb BK398 hb; replace BK399 := kb BK399 hb; replace BK400 := kb BK400 hb; replace HB := wb HB hb; (try clear hb); (try clear hb2); (try clear hk); (try clear hi)))
   go_meet
   case rel => exact ⟨_, (!t402), (by first | rfl | (simp; done) | (simp [*]; done)), H', ⟨by first | omega | exact Nat.le_refl _⟩, ⟨bq BK398⟩, ⟨bq BK399⟩, ⟨bq BK400⟩, ⟨bw HB⟩⟩
  ·replace c8 := Bool.eq_false_iff.mpr c8; subst c8; (have H1 : (r1_Div.j0 k true a0_0 a0_1 a1_0 a1_1) = some (r1, r2, r3) := by rw [if_neg (show ¬ (false = true) by decide)] at H; exact H); clear H; have H := H1; clear H1; have H' := Aside0.mk H; clear H; obtain ⟨hnb17, hnc17⟩ := n2 NB398_399; obtain ⟨hnb18, hnc18⟩ := n2 NB398_400; have hcz19_0 : w6.cell? ⟨gb398, 0, none⟩ = some (.int .i64 a0_0) := bc BK398 0; have hcz19_1 : w6.cell? ⟨gb398, 1, none⟩ = some (.int .i64 a0_1) := bc BK398 1; have hfz19_0 := blk_frozen BK398.out 0; have hfz19_1 := blk_frozen BK398.out 1; go_wp2_with (first | ((with_reducible refine gate_callee (f := 25) rfl ?_); refine gl (some 7) Try.func25 #[.agg #[.int .i64 a0_0, .int .i64 a0_1]] ?_; (with_reducible refine (r1_Valid.calls k a0_0 a0_1 false _ A7.out).mono ?_); rintro e w20 ⟨rfl, hb⟩; refine ⟨_, rfl, ?_⟩; replace BK398 := kb BK398 hb; replace BK399 := kb BK399 hb; replace BK400 := kb BK400 hb; replace HB := wb HB hb; (try clear hb); (try clear hb2); (try clear hk); (try clear hi)))
   go_meet
   case rel => exact ⟨_, (true), (by first | rfl | (simp; done) | (simp [*]; done)), H', ⟨by first | omega | exact Nat.le_refl _⟩, ⟨bq BK398⟩, ⟨bq BK399⟩, ⟨bq BK400⟩, ⟨bw HB⟩⟩
 case rest =>
  clear HC3; (try clear c1); (try clear c2); (try clear p2); (try clear c3); (try clear c8); (try clear c10); (try clear c11); (try clear c14); (try clear c17); (try clear c18); (try clear hcz12_0); (try clear hcz12_1); (try clear hcz15_0); (try clear hcz15_1); (try clear hcz19_0); (try clear hcz19_1); (try clear hfz12_0); (try clear hfz12_1); (try clear hfz15_0); (try clear hfz15_1); (try clear hfz19_0); (try clear hfz19_1); obtain ⟨kq, x13_2, rfl, HA, HJ2, BK398, BK399, BK400, HB⟩ := hcut
  cases kq with
  | zero => exact absurd HA.out (by simp [r1_Div.j0])
  | succ kj2 =>
   have H := HA.out; clear HA; simp only [r1_Div.j0] at H
   by_cases c21 : x13_2 = true
   ·subst c21; (have H1 : (some (0, 0, 1)) = some (r1, r2, r3) := by rw [if_pos rfl] at H; exact H); clear H; have H := H1; clear H1; simp only [Option.some.injEq, Prod.mk.injEq] at H; obtain ⟨rfl, rfl, rfl⟩ := H; obtain ⟨hnb22, hnc22⟩ := n2 NB400_398; obtain ⟨hnb23, hnc23⟩ := n2 NB400_399; have hcz24_0 : wc.cell? ⟨gb400, 0, none⟩ = some (.int .i64 0) := bc BK400 0; have hcz24_1 : wc.cell? ⟨gb400, 1, none⟩ = some (.int .i64 0) := bc BK400 1; have hfz24_0 := blk_frozen BK400.out 0; have hfz24_1 := blk_frozen BK400.out 1; (go_wp2); refine bodyPost_ret (results_ct rfl _ _ gb400 35 #[.int .i64 0, .int .i64 0] (0, 0) _ rfl (by refine pe ?_; refine blk_put (cs := #[.int .i64 0, .int .i64 0]) ?_ 1 _ rfl; refine pe ?_; refine blk_put (cs := #[.int .i64 0, .int .i64 0]) ?_ 0 _ rfl; refine pe ?_; exact BK400.out) Try.underlying35 rfl (by kernel_rfl)) rfl ?_; exact ⟨by first | rfl | (simp [errW_none, errW_some] <;> rfl) | (simp [*, errW_none, errW_some] <;> rfl), bw HB⟩
   ·replace c21 := Bool.eq_false_iff.mpr c21; subst c21; (have H1 : (if a1_0 = 0 then (some (0, 0, 2)) else ((r1_Size.f a0_0).bind fun t403 => ((r1_Size.f a1_1).bind fun t404 => ((r1_Product.f t403 t404).bind fun bt405 => ((r1_Size.f a0_1).bind fun t407 => ((r1_Size.f a1_0).bind fun t408 => ((r1_Product.f t407 t408).bind fun bt409 => ((r1_Reduce.f kj2 ((decide (a0_0 < 0)) != (decide (a1_0 < 0))) bt405.1 bt405.2 bt409.1 bt409.2).bind fun bt411 => (some (bt411.1, bt411.2.1, bt411.2.2)))))))))) = some (r1, r2, r3) := by rw [if_neg (show ¬ (false = true) by decide)] at H; exact H); clear H; have H := H1; clear H1
    by_cases c25 : a1_0 = 0
    ·rw [if_pos c25] at H; have c25b0 : (a1_0 == 0) = true := beq_iff_eq.mpr c25; have c25b1 : (a1_0 != 0) = false := bne_eq_false_iff_eq.mpr c25; clear c25; simp only [Option.some.injEq, Prod.mk.injEq] at H; obtain ⟨rfl, rfl, rfl⟩ := H; obtain ⟨hnb26, hnc26⟩ := n2 NB399_398; obtain ⟨hnb27, hnc27⟩ := n2 NB399_400; have hcz28_0 : wc.cell? ⟨gb399, 0, none⟩ = some (.int .i64 a1_0) := bc BK399 0; have hcz28_1 : wc.cell? ⟨gb399, 1, none⟩ = some (.int .i64 a1_1) := bc BK399 1; have hfz28_0 := blk_frozen BK399.out 0; have hfz28_1 := blk_frozen BK399.out 1; obtain ⟨hnb29, hnc29⟩ := n2 NB400_398; have hcz30_0 : wc.cell? ⟨gb400, 0, none⟩ = some (.int .i64 0) := bc BK400 0; have hcz30_1 : wc.cell? ⟨gb400, 1, none⟩ = some (.int .i64 0) := bc BK400 1; have hfz30_0 := blk_frozen BK400.out 0; have hfz30_1 := blk_frozen BK400.out 1; (go_wp2); refine bodyPost_ret (results_ct rfl _ _ gb400 35 #[.int .i64 0, .int .i64 0] (0, 0) _ rfl (by refine pe ?_; refine blk_put (cs := #[.int .i64 0, .int .i64 0]) ?_ 1 _ rfl; refine pe ?_; refine blk_put (cs := #[.int .i64 0, .int .i64 0]) ?_ 0 _ rfl; refine pe ?_; exact BK400.out) Try.underlying35 rfl (by kernel_rfl)) rfl ?_; exact ⟨by first | rfl | (simp [errW_none, errW_some] <;> rfl) | (simp [*, errW_none, errW_some] <;> rfl), bw HB⟩
    ·rw [if_neg c25] at H; have c25b0 : (a1_0 == 0) = false := beq_eq_false_iff_ne.mpr c25; have c25b1 : (a1_0 != 0) = true := bne_iff_ne.mpr c25; replace H := Option.bind_eq_some_iff.mp H; obtain ⟨t403, A310, H⟩ := H; (try dsimp only at H); have A31 := Aside0.mk A310; clear A310; replace H := Option.bind_eq_some_iff.mp H; obtain ⟨t404, A320, H⟩ := H; (try dsimp only at H); have A32 := Aside0.mk A320; clear A320; replace H := Option.bind_eq_some_iff.mp H; obtain ⟨⟨t405, t406⟩, A330, H⟩ := H; (try dsimp only at H); have A33 := Aside0.mk A330; clear A330; replace H := Option.bind_eq_some_iff.mp H; obtain ⟨t407, A340, H⟩ := H; (try dsimp only at H); have A34 := Aside0.mk A340; clear A340; replace H := Option.bind_eq_some_iff.mp H; obtain ⟨t408, A350, H⟩ := H; (try dsimp only at H); have A35 := Aside0.mk A350; clear A350; replace H := Option.bind_eq_some_iff.mp H; obtain ⟨⟨t409, t410⟩, A360, H⟩ := H; (try dsimp only at H); have A36 := Aside0.mk A360; clear A360; replace H := Option.bind_eq_some_iff.mp H; obtain ⟨⟨t411, t412, t413⟩, A370, H⟩ := H; (try dsimp only at H); have A37 := Aside0.mk A370; clear A370; simp only [Option.some.injEq, Prod.mk.injEq] at H; obtain ⟨rfl, rfl, rfl⟩ := H; obtain ⟨hnb38, hnc38⟩ := n2 NB399_398; obtain ⟨hnb39, hnc39⟩ := n2 NB399_400; have hcz40_0 : wc.cell? ⟨gb399, 0, none⟩ = some (.int .i64 a1_0) := bc BK399 0; have hcz40_1 : wc.cell? ⟨gb399, 1, none⟩ = some (.int .i64 a1_1) := bc BK399 1; have hfz40_0 := blk_frozen BK399.out 0; have hfz40_1 := blk_frozen BK399.out 1; (try go_wp2); have n0_ := Aside0.mk (blk_drew BK398.out); have n1_ := Aside0.mk (blk_drew BK399.out); have n2_ := Aside0.mk (blk_drew BK400.out); have n3_ := Aside0.mk (below_drew1 HB.out); clear BK398; clear BK399; clear BK400; clear HB; have BK398 := n0_; have BK399 := n1_; have BK400 := n2_; have HB := n3_; clear n0_ n1_ n2_ n3_; refine start_ (n := 26) (S := fun w' => w'.cell? ⟨gb398, 0, none⟩ = some (.int .i64 a0_0) ∧ w'.cell? ⟨gb398, 1, none⟩ = some (.int .i64 a0_1) ∧ w'.cell? ⟨gb399, 0, none⟩ = some (.int .i64 a1_0) ∧ w'.cell? ⟨gb399, 1, none⟩ = some (.int .i64 a1_1)) (ds := []) #[false, false, false, false, false, false, false, false, false, false, false, false, false, false, false, false, false, false, false, false, false, false, false, false, false, false] (by kernel_rfl) rfl rfl ⟨bc BK398 0, bc BK398 1, bc BK399 0, bc BK399 1⟩ (fun hHeld => ?_); refine with_tabW r1_Div.tab5 r1_Div.bits5 (fun HT_ HW_ => ?_); (generalize wc.drew = w41 at BK398 BK399 BK400 HB hHeld ⊢); refine pure_ (i := 0) (N := some 19) (v := ?_) (a' := ?_) #[true, false, false, false, false, false, false, false, false, false, false, false, false, false, false, false, false, false, false, false, false, false, false, false, false, false] rfl rfl (any_of HT_.out (by kernel_rfl)) (fun _ _ _ h => h) (Or.inl ⟨by rfl, ?_⟩) ?_ ?_; rotate_left
     ·intro w'; (go_simp); with_reducible rfl
     rotate_left
     ·simp only [Act.put, List.setIfInBounds_toArray, List.set_cons_zero, List.set_cons_succ, i64_w, i32_w]; rfl
     refine pure_ (i := 3) (N := some 22) (v := ?_) (a' := ?_) #[true, false, false, true, false, false, false, false, false, false, false, false, false, false, false, false, false, false, false, false, false, false, false, false, false, false] rfl rfl (any_of HT_.out (by kernel_rfl)) (fun _ _ _ h => h) (Or.inl ⟨by rfl, ?_⟩) ?_ ?_; rotate_left
     ·intro w'; (go_simp); with_reducible rfl
     rotate_left
     ·simp only [Act.put, List.setIfInBounds_toArray, List.set_cons_zero, List.set_cons_succ, i64_w, i32_w]; rfl
     refine pure_ (i := 7) (N := some 26) (v := ?_) (a' := ?_) #[true, false, false, true, false, false, false, true, false, false, false, false, false, false, false, false, false, false, false, false, false, false, false, false, false, false] rfl rfl (any_of HT_.out (by kernel_rfl)) (fun _ _ _ h => h) (Or.inl ⟨by rfl, ?_⟩) ?_ ?_; rotate_left
     ·intro w'; (go_simp); with_reducible rfl
     rotate_left
     ·simp only [Act.put, List.setIfInBounds_toArray, List.set_cons_zero, List.set_cons_succ, i64_w, i32_w]; rfl
     refine pure_ (i := 10) (N := some 29) (v := ?_) (a' := ?_) #[true, false, false, true, false, false, false, true, false, false, true, false, false, false, false, false, false, false, false, false, false, false, false, false, false, false] rfl rfl (any_of HT_.out (by kernel_rfl)) (fun _ _ _ h => h) (Or.inl ⟨by rfl, ?_⟩) ?_ ?_; rotate_left
     ·intro w'; (go_simp); with_reducible rfl
     rotate_left
     ·simp only [Act.put, List.setIfInBounds_toArray, List.set_cons_zero, List.set_cons_succ, i64_w, i32_w]; rfl
     refine pure_ (i := 14) (N := some 33) (v := ?_) (a' := ?_) #[true, false, false, true, false, false, false, true, false, false, true, false, false, false, true, false, false, false, false, false, false, false, false, false, false, false] rfl rfl (any_of HT_.out (by kernel_rfl)) (fun _ _ _ h => h) (Or.inl ⟨by rfl, ?_⟩) ?_ ?_; rotate_left
     ·intro w'; (go_simp); with_reducible rfl
     rotate_left
     ·simp only [Act.put, List.setIfInBounds_toArray, List.set_cons_zero, List.set_cons_succ, i64_w, i32_w]; rfl
     refine pure_ (i := 17) (N := some 36) (v := ?_) (a' := ?_) #[true, false, false, true, false, false, false, true, false, false, true, false, false, false, true, false, false, true, false, false, false, false, false, false, false, false] rfl rfl (any_of HT_.out (by kernel_rfl)) (fun _ _ _ h => h) (Or.inl ⟨by rfl, ?_⟩) ?_ ?_; rotate_left
     ·intro w'; (go_simp); with_reducible rfl
     rotate_left
     ·simp only [Act.put, List.setIfInBounds_toArray, List.set_cons_zero, List.set_cons_succ, i64_w, i32_w]; rfl
     refine take_ (i := 1) (N := some 20) (v := ?_) (a' := ?_) #[true, true, false, true, false, false, false, true, false, false, true, false, false, false, true, false, false, true, false, false, false, false, false, false, false, false] rfl rfl (take_ofW HT_.out HW_.out (by kernel_rfl)) (fun _ _ _ h => h) (Or.inl ⟨by rfl, ?_⟩) hHeld ?_ ?_; rotate_left
     ·rintro w' ⟨s0, s1, s2, s3⟩; (go_simp); with_reducible rfl
     rotate_left
     ·simp only [Act.put, List.setIfInBounds_toArray, List.set_cons_zero, List.set_cons_succ, i64_w, i32_w]; rfl
     refine pure_ (i := 2) (N := some 21) (v := ?_) (a' := ?_) #[true, true, true, true, false, false, false, true, false, false, true, false, false, false, true, false, false, true, false, false, false, false, false, false, false, false] rfl rfl (any_of HT_.out (by kernel_rfl)) (fun _ _ _ h => h) (Or.inl ⟨by rfl, ?_⟩) ?_ ?_; rotate_left
     ·intro w'; (go_simp); with_reducible rfl
     rotate_left
     ·simp only [Act.put, List.setIfInBounds_toArray, List.set_cons_zero, List.set_cons_succ, i64_w, i32_w]; rfl
     refine take_ (i := 4) (N := some 23) (v := ?_) (a' := ?_) #[true, true, true, true, true, false, false, true, false, false, true, false, false, false, true, false, false, true, false, false, false, false, false, false, false, false] rfl rfl (take_ofW HT_.out HW_.out (by kernel_rfl)) (fun _ _ _ h => h) (Or.inl ⟨by rfl, ?_⟩) hHeld ?_ ?_; rotate_left
     ·rintro w' ⟨s0, s1, s2, s3⟩; (go_simp); with_reducible rfl
     rotate_left
     ·simp only [Act.put, List.setIfInBounds_toArray, List.set_cons_zero, List.set_cons_succ, i64_w, i32_w]; rfl
     refine pure_ (i := 5) (N := some 24) (v := ?_) (a' := ?_) #[true, true, true, true, true, true, false, true, false, false, true, false, false, false, true, false, false, true, false, false, false, false, false, false, false, false] rfl rfl (any_of HT_.out (by kernel_rfl)) (fun _ _ _ h => h) (Or.inl ⟨by rfl, ?_⟩) ?_ ?_; rotate_left
     ·intro w'; (go_simp); with_reducible rfl
     rotate_left
     ·simp only [Act.put, List.setIfInBounds_toArray, List.set_cons_zero, List.set_cons_succ, i64_w, i32_w]; rfl
     refine pure_ (i := 6) (N := some 25) (v := ?_) (a' := ?_) #[true, true, true, true, true, true, true, true, false, false, true, false, false, false, true, false, false, true, false, false, false, false, false, false, false, false] rfl rfl (any_of HT_.out (by kernel_rfl)) (fun _ _ _ h => h) (Or.inl ⟨by rfl, ?_⟩) ?_ ?_; rotate_left
     ·intro w'; (go_simp); with_reducible rfl
     rotate_left
     ·simp only [Act.put, List.setIfInBounds_toArray, List.set_cons_zero, List.set_cons_succ, i64_w, i32_w]; rfl
     refine take_ (i := 8) (N := some 27) (v := ?_) (a' := ?_) #[true, true, true, true, true, true, true, true, true, false, true, false, false, false, true, false, false, true, false, false, false, false, false, false, false, false] rfl rfl (take_ofW HT_.out HW_.out (by kernel_rfl)) (fun _ _ _ h => h) (Or.inl ⟨by rfl, ?_⟩) hHeld ?_ ?_; rotate_left
     ·rintro w' ⟨s0, s1, s2, s3⟩; (go_simp); with_reducible rfl
     rotate_left
     ·simp only [Act.put, List.setIfInBounds_toArray, List.set_cons_zero, List.set_cons_succ, i64_w, i32_w]; rfl
     refine take_ (i := 11) (N := some 30) (v := ?_) (a' := ?_) #[true, true, true, true, true, true, true, true, true, false, true, true, false, false, true, false, false, true, false, false, false, false, false, false, false, false] rfl rfl (take_ofW HT_.out HW_.out (by kernel_rfl)) (fun _ _ _ h => h) (Or.inl ⟨by rfl, ?_⟩) hHeld ?_ ?_; rotate_left
     ·rintro w' ⟨s0, s1, s2, s3⟩; (go_simp); with_reducible rfl
     rotate_left
     ·simp only [Act.put, List.setIfInBounds_toArray, List.set_cons_zero, List.set_cons_succ, i64_w, i32_w]; rfl
     refine take_ (i := 15) (N := some 34) (v := ?_) (a' := ?_) #[true, true, true, true, true, true, true, true, true, false, true, true, false, false, true, true, false, true, false, false, false, false, false, false, false, false] rfl rfl (take_ofW HT_.out HW_.out (by kernel_rfl)) (fun _ _ _ h => h) (Or.inl ⟨by rfl, ?_⟩) hHeld ?_ ?_; rotate_left
     ·rintro w' ⟨s0, s1, s2, s3⟩; (go_simp); with_reducible rfl
     rotate_left
     ·simp only [Act.put, List.setIfInBounds_toArray, List.set_cons_zero, List.set_cons_succ, i64_w, i32_w]; rfl
     refine take_ (i := 18) (N := some 37) (v := ?_) (a' := ?_) #[true, true, true, true, true, true, true, true, true, false, true, true, false, false, true, true, false, true, true, false, false, false, false, false, false, false] rfl rfl (take_ofW HT_.out HW_.out (by kernel_rfl)) (fun _ _ _ h => h) (Or.inl ⟨by rfl, ?_⟩) hHeld ?_ ?_; rotate_left
     ·rintro w' ⟨s0, s1, s2, s3⟩; (go_simp); with_reducible rfl
     rotate_left
     ·simp only [Act.put, List.setIfInBounds_toArray, List.set_cons_zero, List.set_cons_succ, i64_w, i32_w]; rfl
     refine one_ (i := 9) (N := some 28) #[true, true, true, true, true, true, true, true, true, true, true, true, false, false, true, true, false, true, true, false, false, false, false, false, false, false] rfl rfl (one_of HT_.out (by kernel_rfl)) (by decide) (fun K hK => ?_); refine gz Try.func51 #[.int .i64 a0_0] ?_; (with_reducible refine (r1_Size.calls a0_0 t403 _ A31.out).mono ?_); rintro e w' ⟨rfl, ⟨nd, rfl⟩⟩; refine ⟨_, rfl, ?_⟩; refine hK.out _ _ ⟨bc BK398 0, bc BK398 1, bc BK399 0, bc BK399 1⟩ (fun hHeld => ?_); clear hK K; refine norm_ (a' := ?_) ?_ ?_; rotate_left
     ·show Act.put _ (some 28) _ = _; simp only [Act.put, List.setIfInBounds_toArray, List.set_cons_zero, List.set_cons_succ, i64_w, i32_w]; rfl
     refine one_ (i := 12) (N := some 31) #[true, true, true, true, true, true, true, true, true, true, true, true, true, false, true, true, false, true, true, false, false, false, false, false, false, false] rfl rfl (one_of HT_.out (by kernel_rfl)) (by decide) (fun K hK => ?_); refine gz Try.func51 #[.int .i64 a1_1] ?_; (with_reducible refine (r1_Size.calls a1_1 t404 _ A32.out).mono ?_); rintro e w' ⟨rfl, ⟨nd, rfl⟩⟩; refine ⟨_, rfl, ?_⟩; refine hK.out _ _ ⟨bc BK398 0, bc BK398 1, bc BK399 0, bc BK399 1⟩ (fun hHeld => ?_); clear hK K; refine norm_ (a' := ?_) ?_ ?_; rotate_left
     ·show Act.put _ (some 31) _ = _; simp only [Act.put, List.setIfInBounds_toArray, List.set_cons_zero, List.set_cons_succ, i64_w, i32_w]; rfl
     refine one_ (i := 13) (N := some 32) #[true, true, true, true, true, true, true, true, true, true, true, true, true, true, true, true, false, true, true, false, false, false, false, false, false, false] rfl rfl (one_of HT_.out (by kernel_rfl)) (by decide) (fun K hK => ?_); refine gz Try.func58 #[.int .u64 t403, .int .u64 t404] ?_; (with_reducible refine (r1_Product.calls t403 t404 t405 t406 _ A33.out).mono ?_); rintro e w42 ⟨rfl, hb⟩; refine ⟨_, rfl, ?_⟩; have n0_ := kb BK398 hb; have n1_ := kb BK399 hb; have n2_ := kb BK400 hb; have n3_ := wb HB hb; clear BK398; clear BK399; clear BK400; clear HB; have BK398 := n0_; have BK399 := n1_; have BK400 := n2_; have HB := n3_; clear n0_ n1_ n2_ n3_; (try clear hb); (try clear hb2); (try clear hk); (try clear hi); refine hK.out _ _ ⟨bc BK398 0, bc BK398 1, bc BK399 0, bc BK399 1⟩ (fun hHeld => ?_); clear hK K; refine norm_ (a' := ?_) ?_ ?_; rotate_left
     ·show Act.put _ (some 32) _ = _; simp only [Act.put, List.setIfInBounds_toArray, List.set_cons_zero, List.set_cons_succ, i64_w, i32_w]; rfl
     refine one_ (i := 16) (N := some 35) #[true, true, true, true, true, true, true, true, true, true, true, true, true, true, true, true, true, true, true, false, false, false, false, false, false, false] rfl rfl (one_of HT_.out (by kernel_rfl)) (by decide) (fun K hK => ?_); refine gz Try.func51 #[.int .i64 a0_1] ?_; (with_reducible refine (r1_Size.calls a0_1 t407 _ A34.out).mono ?_); rintro e w' ⟨rfl, ⟨nd, rfl⟩⟩; refine ⟨_, rfl, ?_⟩; refine hK.out _ _ ⟨bc BK398 0, bc BK398 1, bc BK399 0, bc BK399 1⟩ (fun hHeld => ?_); clear hK K; refine norm_ (a' := ?_) ?_ ?_; rotate_left
     ·show Act.put _ (some 35) _ = _; simp only [Act.put, List.setIfInBounds_toArray, List.set_cons_zero, List.set_cons_succ, i64_w, i32_w]; rfl
     refine one_ (i := 19) (N := some 38) #[true, true, true, true, true, true, true, true, true, true, true, true, true, true, true, true, true, true, true, true, false, false, false, false, false, false] rfl rfl (one_of HT_.out (by kernel_rfl)) (by decide) (fun K hK => ?_); refine gz Try.func51 #[.int .i64 a1_0] ?_; (with_reducible refine (r1_Size.calls a1_0 t408 _ A35.out).mono ?_); rintro e w' ⟨rfl, ⟨nd, rfl⟩⟩; refine ⟨_, rfl, ?_⟩; refine hK.out _ _ ⟨bc BK398 0, bc BK398 1, bc BK399 0, bc BK399 1⟩ (fun hHeld => ?_); clear hK K; refine norm_ (a' := ?_) ?_ ?_; rotate_left
     ·show Act.put _ (some 38) _ = _; simp only [Act.put, List.setIfInBounds_toArray, List.set_cons_zero, List.set_cons_succ, i64_w, i32_w]; rfl
     refine one_ (i := 20) (N := some 39) #[true, true, true, true, true, true, true, true, true, true, true, true, true, true, true, true, true, true, true, true, true, false, false, false, false, false] rfl rfl (one_of HT_.out (by kernel_rfl)) (by decide) (fun K hK => ?_); refine gz Try.func58 #[.int .u64 t407, .int .u64 t408] ?_; (with_reducible refine (r1_Product.calls t407 t408 t409 t410 _ A36.out).mono ?_); rintro e w43 ⟨rfl, hb⟩; refine ⟨_, rfl, ?_⟩; have n0_ := kb BK398 hb; have n1_ := kb BK399 hb; have n2_ := kb BK400 hb; have n3_ := wb HB hb; clear BK398; clear BK399; clear BK400; clear HB; have BK398 := n0_; have BK399 := n1_; have BK400 := n2_; have HB := n3_; clear n0_ n1_ n2_ n3_; (try clear hb); (try clear hb2); (try clear hk); (try clear hi); refine hK.out _ _ ⟨bc BK398 0, bc BK398 1, bc BK399 0, bc BK399 1⟩ (fun hHeld => ?_); clear hK K; refine norm_ (a' := ?_) ?_ ?_; rotate_left
     ·show Act.put _ (some 39) _ = _; simp only [Act.put, List.setIfInBounds_toArray, List.set_cons_zero, List.set_cons_succ, i64_w, i32_w]; rfl
     refine one_ (i := 21) (N := some 40) #[true, true, true, true, true, true, true, true, true, true, true, true, true, true, true, true, true, true, true, true, true, true, false, false, false, false] rfl rfl (one_of HT_.out (by kernel_rfl)) (by decide) (fun K hK => ?_); refine gz Try.func50 #[.bool ((decide (a0_0 < 0)) != (decide (a1_0 < 0))), .agg #[.int .u64 t405, .int .u64 t406], .agg #[.int .u64 t409, .int .u64 t410]] ?_; (with_reducible refine (r1_Reduce.calls kj2 ((decide (a0_0 < 0)) != (decide (a1_0 < 0))) t405 t406 t409 t410 t411 t412 t413 _ A37.out).mono ?_); rintro e w44 ⟨rfl, hb⟩; refine ⟨_, rfl, ?_⟩; have n0_ := kb BK398 hb; have n1_ := kb BK399 hb; have n2_ := kb BK400 hb; have n3_ := wb HB hb; clear BK398; clear BK399; clear BK400; clear HB; have BK398 := n0_; have BK399 := n1_; have BK400 := n2_; have HB := n3_; clear n0_ n1_ n2_ n3_; (try clear hb); (try clear hb2); (try clear hk); (try clear hi); refine hK.out _ _ ⟨bc BK398 0, bc BK398 1, bc BK399 0, bc BK399 1⟩ (fun hHeld => ?_); clear hK K; refine norm_ (a' := ?_) ?_ ?_; rotate_left
     ·show Act.put _ (some 40) _ = _; simp only [Act.put, List.setIfInBounds_toArray, List.set_cons_zero, List.set_cons_succ, i64_w, i32_w]; rfl
     refine pure_ (i := 22) (N := some 41) (v := ?_) (a' := ?_) #[true, true, true, true, true, true, true, true, true, true, true, true, true, true, true, true, true, true, true, true, true, true, true, false, false, false] rfl rfl (any_of HT_.out (by kernel_rfl)) (fun _ _ _ h => h) (Or.inl ⟨by rfl, ?_⟩) ?_ ?_; rotate_left
     ·intro w'; (go_simp); with_reducible rfl
     rotate_left
     ·simp only [Act.put, List.setIfInBounds_toArray, List.set_cons_zero, List.set_cons_succ, i64_w, i32_w]; rfl
     refine pure_ (i := 23) (N := some 42) (v := ?_) (a' := ?_) #[true, true, true, true, true, true, true, true, true, true, true, true, true, true, true, true, true, true, true, true, true, true, true, true, false, false] rfl rfl (any_of HT_.out (by kernel_rfl)) (fun _ _ _ h => h) (Or.inl ⟨by rfl, ?_⟩) ?_ ?_; rotate_left
     ·intro w'; (go_simp); with_reducible rfl
     rotate_left
     ·simp only [Act.put, List.setIfInBounds_toArray, List.set_cons_zero, List.set_cons_succ, i64_w, i32_w]; rfl
     refine one_ (i := 24) (N := none) #[true, true, true, true, true, true, true, true, true, true, true, true, true, true, true, true, true, true, true, true, true, true, true, true, true, false] rfl rfl (one_of HT_.out (by kernel_rfl)) (by decide) (fun K hK => ?_); have hs45 : w44.cell? ⟨gb400, 0, none⟩ = some (.int .i64 0) := bc BK400 0; have hfs45 := blk_frozen BK400.out 0; have hns45_0 := NB398_400.out; have hns45_1 := NB399_400.out; have hms45_0 := NB400_398.out; have hms45_1 := NB400_399.out; have hs46 : w44.cell? ⟨gb400, 1, none⟩ = some (.int .i64 0) := bc BK400 1; have hfs46 := blk_frozen BK400.out 1; have hns46_0 := NB398_400.out; have hns46_1 := NB399_400.out; have hms46_0 := NB400_398.out; have hms46_1 := NB400_399.out; refine skip_ (w1 := ?_) (by rfl) rfl ?_ ?_; rotate_left
     ·(go_simp); rfl
     refine hK.out _ _ ⟨((cell_far (p := ⟨gb400, _, none⟩) NB398_400.out _).trans (((cell_far (p := ⟨gb400, _, none⟩) NB398_400.out _).trans (hHeld.1)))), ((cell_far (p := ⟨gb400, _, none⟩) NB398_400.out _).trans (((cell_far (p := ⟨gb400, _, none⟩) NB398_400.out _).trans (hHeld.2.1)))), ((cell_far (p := ⟨gb400, _, none⟩) NB399_400.out _).trans (((cell_far (p := ⟨gb400, _, none⟩) NB399_400.out _).trans (hHeld.2.2.1)))), ((cell_far (p := ⟨gb400, _, none⟩) NB399_400.out _).trans (((cell_far (p := ⟨gb400, _, none⟩) NB399_400.out _).trans (hHeld.2.2.2))))⟩ (fun hHeld => ?_); clear hK K; refine pure_ (i := 25) (N := some 5) (v := ?_) (a' := ?_) #[true, true, true, true, true, true, true, true, true, true, true, true, true, true, true, true, true, true, true, true, true, true, true, true, true, true] rfl rfl (any_of HT_.out (by kernel_rfl)) (fun _ _ _ h => h) (Or.inl ⟨by rfl, ?_⟩) ?_ ?_; rotate_left
     ·intro w'; (go_simp); with_reducible rfl
     rotate_left
     ·simp only [Act.put, List.setIfInBounds_toArray, List.set_cons_zero, List.set_cons_succ, i64_w, i32_w]; rfl
     refine done_ (done_of HT_.out (by kernel_rfl)) ?_; (try go_wp2); refine bodyPost_ret (results_ct rfl _ _ gb400 35 #[.int .i64 t411, .int .i64 t412] (0, 0) _ rfl (by refine pe ?_; refine blk_put (cs := #[.int .i64 t411, .int .i64 0]) ?_ 1 _ rfl; refine pe ?_; refine blk_put (cs := #[.int .i64 0, .int .i64 0]) ?_ 0 _ rfl; refine pe ?_; exact BK400.out) Try.underlying35 rfl (by kernel_rfl)) rfl ?_; exact ⟨by first | rfl | (simp [errW_none, errW_some] <;> rfl) | (simp [*, errW_none, errW_some] <;> rfl), bw HB⟩

end Go.Proofs.Ytcbohbeipgcfhaa.G
