/- Texts of this claim laid together: Gf41, Gf70, Gf71, Gf75. -/
import Derived.Test.YtcbohbeipgcfhaaShortC
import Derived.Test.YtcbohbeipgcfhaaG0
import Derived.Test.YtcbohbeipgcfhaaZFin3
import Derived.Test.YtcbohbeipgcfhaaZFin6
import Derived.Test.YtcbohbeipgcfhaaGe1
-- Printed by gp.py (a program of this session's own, over the kit's printer) out of the translation; Lean checks it.
namespace Go.Proofs.Ytcbohbeipgcfhaa.G
open Go.Proofs.Ytcbohbeipgcfhaa.Given Go.Proofs.Ytcbohbeipgcfhaa.Short
open Go.RowKit Go.Proofs.YtcbohbeipgcfhaaW.PrintWords Go.Proofs.YtcbohbeipgcfhaaW.PrintLast Go.Proofs.YtcbohbeipgcfhaaW.PrintMore
attribute [local go_sem] max2_int min2_int max_two min_two max_three min_three max_four min_four   -- for this text's walks alone
set_option linter.unusedVariables false
set_option linter.unusedSimpArgs false

/-! ### ratio_Sub: function 41 -/
def ratio_Sub.f (k : Nat) (a0_0 : Int) (a0_1 : Int) (a1_0 : Int) (a1_1 : Int) : Option (Int × Int × Int) := (ratio_Valid.f k a0_0 a0_1).bind fun t729 => (if t729 = true then ((ratio_Valid.f k a1_0 a1_1).bind fun t730 => (if t730 = true then ((ratio_Add.f k a0_0 a0_1 (wrap64 (-a1_0)) a1_1).bind fun bt731 => (some (bt731.1, bt731.2.1, bt731.2.2))) else (some (0, 0, 1)))) else (some (0, 0, 1)))
theorem ratio_Sub.mono : ∀ a0 a1 a2 a3 k, LeO (ratio_Sub.f k a0 a1 a2 a3) (ratio_Sub.f (k + 1) a0 a1 a2 a3) := by
 intro a0 a1 a2 a3 k; unfold ratio_Sub.f
 repeat' first
   | (with_reducible exact ratio_Add.mono _ _ _ _ _)
   | (with_reducible exact ratio_Valid.mono _ _ _)
   | (with_reducible exact LeO.refl _)
   | (with_reducible exact LeO.none _)
   | (with_reducible refine LeO.ite ?_ ?_)
   | (with_reducible refine LeO.bind ?_ (fun _ => ?_))
   | exact ratio_Add.mono _ _ _ _ _
   | exact ratio_Valid.mono _ _ _
   | exact LeO.none _
   | refine LeO.ite ?_ ?_
   | refine LeO.bind ?_ (fun _ => ?_)
set_option maxHeartbeats 8000000 in
set_option maxRecDepth 100000 in
theorem ratio_Sub.calls (k : Nat) (a0_0 : Int) (a0_1 : Int) (a1_0 : Int) (a1_1 : Int) (r1 : Int) (r2 : Int) (r3 : Int) (w : World) (h : ratio_Sub.f k a0_0 a0_1 a1_0 a1_1 = some (r1, r2, r3)) :
  Calls Try.prog 41 #[.agg #[.int .i64 a0_0, .int .i64 a0_1], .agg #[.int .i64 a1_0, .int .i64 a1_1]] w fun e w' => e = .returned (.tuple #[.agg #[.int .i64 r1, .int .i64 r2], .int .i64 r3]) ∧ Below w.heap.size w w' := by
 have hu35 := Try.underlying35; have HB := Aside0.mk (Below.refl w.heap.size w); have H : ((ratio_Valid.f k a0_0 a0_1).bind fun t729 => (if t729 = true then ((ratio_Valid.f k a1_0 a1_1).bind fun t730 => (if t730 = true then ((ratio_Add.f k a0_0 a0_1 (wrap64 (-a1_0)) a1_1).bind fun bt731 => (some (bt731.1, bt731.2.1, bt731.2.2))) else (some (0, 0, 1)))) else (some (0, 0, 1)))) = some (r1, r2, r3) := h; clear h; have HC3 := Aside0.mk H; clear H; go_enter Try.func41, Try.ntmps41
 go_upto_region 1 with (first | ((with_reducible refine gate_dst (N := 2) rfl ?_); refine bx (N := 2) (cs := #[.int .i64 a0_0, .int .i64 a0_1]) (t := 35) ?_; intro gb726 hg w4 hbox hb; have BK726 := Aside0.mk (hbox); have GW726 := gs HB hg; have GE726 := gs HB hg; replace HB := wb HB hb; clear hb hbox hg) | ((with_reducible refine gate_dst (N := 3) rfl ?_); refine bx (N := 3) (cs := #[.int .i64 a1_0, .int .i64 a1_1]) (t := 35) ?_; intro gb727 hg w5 hbox hb; have BK727 := Aside0.mk (hbox); have GW727 := gs HB hg; have GE727 := gs HB hg; have NB726_727 := nl BK726 hg; have NB727_726 := nr BK726 hg; replace BK726 := kb BK726 hb; replace HB := wb HB hb; clear hb hbox hg) | ((with_reducible refine gate_dst (N := 4) rfl ?_); refine bx (N := 4) (cs := #[.int .i64 0, .int .i64 0]) (t := 35) ?_; intro gb728 hg w6 hbox hb; have BK728 := Aside0.mk (hbox); have GW728 := gs HB hg; have GE728 := gs HB hg; have NB726_728 := nl BK726 hg; have NB728_726 := nr BK726 hg; have NB727_728 := nl BK727 hg; have NB728_727 := nr BK727 hg; replace BK726 := kb BK726 hb; replace BK727 := kb BK727 hb; replace HB := wb HB hb; clear hb hbox hg))
 (try simp only [Act.put, List.setIfInBounds_toArray, List.set_cons_zero, List.set_cons_succ]); have H := HC3.out; clear HC3; replace H := Option.bind_eq_some_iff.mp H; obtain ⟨t729, A70, H⟩ := H; (try dsimp only at H); have A7 := Aside0.mk A70; clear A70
 by_cases c8 : t729 = true
 ·subst c8; (have H1 : ((ratio_Valid.f k a1_0 a1_1).bind fun t730 => (if t730 = true then ((ratio_Add.f k a0_0 a0_1 (wrap64 (-a1_0)) a1_1).bind fun bt731 => (some (bt731.1, bt731.2.1, bt731.2.2))) else (some (0, 0, 1)))) = some (r1, r2, r3) := by rw [if_pos rfl] at H; exact H); clear H; have H := H1; clear H1; replace H := Option.bind_eq_some_iff.mp H; obtain ⟨t730, A90, H⟩ := H; (try dsimp only at H); have A9 := Aside0.mk A90; clear A90; have HC10 := Aside0.mk H; clear H; obtain ⟨hnb11, hnc11⟩ := n2 NB726_727; obtain ⟨hnb12, hnc12⟩ := n2 NB726_728; have hcz13_0 : w6.cell? ⟨gb726, 0, none⟩ = some (.int .i64 a0_0) := bc BK726 0; have hcz13_1 : w6.cell? ⟨gb726, 1, none⟩ = some (.int .i64 a0_1) := bc BK726 1; have hfz13_0 := blk_frozen BK726.out 0; have hfz13_1 := blk_frozen BK726.out 1
  go_upto_if 13 with (first | ((with_reducible refine gate_callee (f := 24) rfl ?_); refine gl (some 7) Try.func24 #[.agg #[.int .i64 a0_0, .int .i64 a0_1]] ?_; (with_reducible refine (ratio_Valid.calls k a0_0 a0_1 true _ A7.out).mono ?_); rintro e w14 ⟨rfl, hb⟩; refine ⟨_, rfl, ?_⟩; replace BK726 := kb BK726 hb; replace BK727 := kb BK727 hb; replace BK728 := kb BK728 hb; replace HB := wb HB hb; (try clear hb); (try clear hb2); (try clear hk); (try clear hi); obtain ⟨hnb15, hnc15⟩ := n2 NB727_728; have hcz16_0 : w14.cell? ⟨gb727, 0, none⟩ = some (.int .i64 a1_0) := bc BK727 0; have hcz16_1 : w14.cell? ⟨gb727, 1, none⟩ = some (.int .i64 a1_1) := bc BK727 1; have hfz16_0 := blk_frozen BK727.out 0; have hfz16_1 := blk_frozen BK727.out 1) | (go_at_call 24; (with_reducible refine (ratio_Valid.calls k a1_0 a1_1 t730 _ A9.out).mono ?_); rintro e w17 ⟨rfl, hb⟩; replace BK726 := kb BK726 hb; replace BK727 := kb BK727 hb; replace BK728 := kb BK728 hb; replace HB := wb HB hb; (try clear hb); (try clear hb2); (try clear hk); (try clear hi)))
  (try simp only [Act.put, List.setIfInBounds_toArray, List.set_cons_zero, List.set_cons_succ]); have H := HC10.out; clear HC10
  by_cases c18 : t730 = true
  ·subst c18; (have H1 : ((ratio_Add.f k a0_0 a0_1 (wrap64 (-a1_0)) a1_1).bind fun bt731 => (some (bt731.1, bt731.2.1, bt731.2.2))) = some (r1, r2, r3) := by rw [if_pos rfl] at H; exact H); clear H; have H := H1; clear H1; replace H := Option.bind_eq_some_iff.mp H; obtain ⟨⟨t731, t732, t733⟩, A190, H⟩ := H; (try dsimp only at H); have A19 := Aside0.mk A190; clear A190; simp only [Option.some.injEq, Prod.mk.injEq] at H; obtain ⟨rfl, rfl, rfl⟩ := H; obtain ⟨hnb20, hnc20⟩ := n2 NB726_727; obtain ⟨hnb21, hnc21⟩ := n2 NB726_728; have hcz22_0 : w17.cell? ⟨gb726, 0, none⟩ = some (.int .i64 a0_0) := bc BK726 0; have hcz22_1 : w17.cell? ⟨gb726, 1, none⟩ = some (.int .i64 a0_1) := bc BK726 1; have hfz22_0 := blk_frozen BK726.out 0; have hfz22_1 := blk_frozen BK726.out 1; obtain ⟨hnb23, hnc23⟩ := n2 NB727_728; have hcz24_0 : w17.cell? ⟨gb727, 0, none⟩ = some (.int .i64 a1_0) := bc BK727 0; have hcz24_1 : w17.cell? ⟨gb727, 1, none⟩ = some (.int .i64 a1_1) := bc BK727 1; have hfz24_0 := blk_frozen BK727.out 0; have hfz24_1 := blk_frozen BK727.out 1; (go_wp2_with (first | ((with_reducible refine gate_callee (f := 39) rfl ?_); refine gl (some 22) Try.func39 #[.agg #[.int .i64 a0_0, .int .i64 a0_1], .agg #[.int .i64 (wrap64 (-a1_0)), .int .i64 a1_1]] ?_; (with_reducible refine (ratio_Add.calls k a0_0 a0_1 (wrap64 (-a1_0)) a1_1 t731 t732 t733 _ A19.out).mono ?_); rintro e w25 ⟨rfl, hb⟩; refine ⟨_, rfl, ?_⟩; replace BK726 := kb BK726 hb; replace BK727 := kb BK727 hb; replace BK728 := kb BK728 hb; replace HB := wb HB hb; (try clear hb); (try clear hb2); (try clear hk); (try clear hi); have hcz26_0 : w25.cell? ⟨gb728, 0, none⟩ = some (.int .i64 0) := bc BK728 0; have hcz26_1 : w25.cell? ⟨gb728, 1, none⟩ = some (.int .i64 0) := bc BK728 1; have hfz26_0 := blk_frozen BK728.out 0; have hfz26_1 := blk_frozen BK728.out 1))); refine bodyPost_ret (results_ct rfl _ _ gb728 35 #[.int .i64 t731, .int .i64 t732] (0, 0) _ rfl (by refine pe ?_; refine blk_put (cs := #[.int .i64 t731, .int .i64 0]) ?_ 1 _ rfl; refine pe ?_; refine blk_put (cs := #[.int .i64 0, .int .i64 0]) ?_ 0 _ rfl; refine pe ?_; exact BK728.out) Try.underlying35 rfl (by kernel_rfl)) rfl ?_; exact ⟨by first | rfl | (simp [errW_none, errW_some] <;> rfl) | (simp [*, errW_none, errW_some] <;> rfl), bw HB⟩
  ·replace c18 := Bool.eq_false_iff.mpr c18; subst c18; (have H1 : (some (0, 0, 1)) = some (r1, r2, r3) := by rw [if_neg (show ¬ (false = true) by decide)] at H; exact H); clear H; have H := H1; clear H1; simp only [Option.some.injEq, Prod.mk.injEq] at H; obtain ⟨rfl, rfl, rfl⟩ := H; obtain ⟨hnb27, hnc27⟩ := n2 NB728_726; obtain ⟨hnb28, hnc28⟩ := n2 NB728_727; have hcz29_0 : w17.cell? ⟨gb728, 0, none⟩ = some (.int .i64 0) := bc BK728 0; have hcz29_1 : w17.cell? ⟨gb728, 1, none⟩ = some (.int .i64 0) := bc BK728 1; have hfz29_0 := blk_frozen BK728.out 0; have hfz29_1 := blk_frozen BK728.out 1; (go_wp2); refine bodyPost_ret (results_ct rfl _ _ gb728 35 #[.int .i64 0, .int .i64 0] (0, 0) _ rfl (by refine pe ?_; refine blk_put (cs := #[.int .i64 0, .int .i64 0]) ?_ 1 _ rfl; refine pe ?_; refine blk_put (cs := #[.int .i64 0, .int .i64 0]) ?_ 0 _ rfl; refine pe ?_; exact BK728.out) Try.underlying35 rfl (by kernel_rfl)) rfl ?_; exact ⟨by first | rfl | (simp [errW_none, errW_some] <;> rfl) | (simp [*, errW_none, errW_some] <;> rfl), bw HB⟩
 ·replace c8 := Bool.eq_false_iff.mpr c8; subst c8; (have H1 : (some (0, 0, 1)) = some (r1, r2, r3) := by rw [if_neg (show ¬ (false = true) by decide)] at H; exact H); clear H; have H := H1; clear H1; simp only [Option.some.injEq, Prod.mk.injEq] at H; obtain ⟨rfl, rfl, rfl⟩ := H; obtain ⟨hnb30, hnc30⟩ := n2 NB726_727; obtain ⟨hnb31, hnc31⟩ := n2 NB726_728; have hcz32_0 : w6.cell? ⟨gb726, 0, none⟩ = some (.int .i64 a0_0) := bc BK726 0; have hcz32_1 : w6.cell? ⟨gb726, 1, none⟩ = some (.int .i64 a0_1) := bc BK726 1; have hfz32_0 := blk_frozen BK726.out 0; have hfz32_1 := blk_frozen BK726.out 1; (go_wp2_with (first | ((with_reducible refine gate_callee (f := 24) rfl ?_); refine gl (some 7) Try.func24 #[.agg #[.int .i64 a0_0, .int .i64 a0_1]] ?_; (with_reducible refine (ratio_Valid.calls k a0_0 a0_1 false _ A7.out).mono ?_); rintro e w33 ⟨rfl, hb⟩; refine ⟨_, rfl, ?_⟩; replace BK726 := kb BK726 hb; replace BK727 := kb BK727 hb; replace BK728 := kb BK728 hb; replace HB := wb HB hb; (try clear hb); (try clear hb2); (try clear hk); (try clear hi); obtain ⟨hnb34, hnc34⟩ := n2 NB728_727; have hcz35_0 : w33.cell? ⟨gb728, 0, none⟩ = some (.int .i64 0) := bc BK728 0; have hcz35_1 : w33.cell? ⟨gb728, 1, none⟩ = some (.int .i64 0) := bc BK728 1; have hfz35_0 := blk_frozen BK728.out 0; have hfz35_1 := blk_frozen BK728.out 1))); refine bodyPost_ret (results_ct rfl _ _ gb728 35 #[.int .i64 0, .int .i64 0] (0, 0) _ rfl (by refine pe ?_; refine blk_put (cs := #[.int .i64 0, .int .i64 0]) ?_ 1 _ rfl; refine pe ?_; refine blk_put (cs := #[.int .i64 0, .int .i64 0]) ?_ 0 _ rfl; refine pe ?_; exact BK728.out) Try.underlying35 rfl (by kernel_rfl)) rfl ?_; exact ⟨by first | rfl | (simp [errW_none, errW_some] <;> rfl) | (simp [*, errW_none, errW_some] <;> rfl), bw HB⟩

end Go.Proofs.Ytcbohbeipgcfhaa.G

-- Printed by gp.py (a program of this session's own, over the kit's printer) out of the translation; Lean checks it.
namespace Go.Proofs.Ytcbohbeipgcfhaa.G
open Go.Proofs.Ytcbohbeipgcfhaa.Given Go.Proofs.Ytcbohbeipgcfhaa.Short
open Go.RowKit Go.Proofs.YtcbohbeipgcfhaaW.PrintWords Go.Proofs.YtcbohbeipgcfhaaW.PrintLast Go.Proofs.YtcbohbeipgcfhaaW.PrintMore
attribute [local go_sem] max2_int min2_int max_two min_two max_three min_three max_four min_four   -- for this text's walks alone
set_option linter.unusedVariables false
set_option linter.unusedSimpArgs false

attribute [local go_sem high] eqA61
/-! ### r1_Order: function 70 -/
def r1_Order.j0 : Nat → Bool → Int → Int → Int → Int → Option (Int)
 | 0, _, _, _, _, _ => none
 | k + 1, x23, x208000, x208001, x209000, x209001 => if x23 = true then (some (-1)) else (if (x208000 == x209000 && (x208001 == x209001)) = true then (some 0) else (some 1))
def r1_Order.f (k : Nat) (a0_0 : Int) (a0_1 : Int) (a1_0 : Int) (a1_1 : Int) : Option (Int) := if a0_0 < a1_0 then (r1_Order.j0 k true a0_0 a0_1 a1_0 a1_1) else (if a0_0 = a1_0 then (r1_Order.j0 k (decide (a0_1 < a1_1)) a0_0 a0_1 a1_0 a1_1) else (r1_Order.j0 k false a0_0 a0_1 a1_0 a1_1))
theorem r1_Order.mono_l : ∀ k, (∀ y0 y1 y2 y3 y4, LeO (r1_Order.j0 k y0 y1 y2 y3 y4) (r1_Order.j0 (k + 1) y0 y1 y2 y3 y4))
 | 0 => fun _ _ _ _ _ r h => by simp [r1_Order.j0] at h
 | k + 1 => by
  have ih0 := r1_Order.mono_l k
  ·intro y0 y1 y2 y3 y4; unfold r1_Order.j0
   repeat' first
   | (with_reducible exact ih0 _ _ _ _ _)
   | (with_reducible exact LeO.refl _)
   | (with_reducible exact LeO.none _)
   | (with_reducible refine LeO.ite ?_ ?_)
   | (with_reducible refine LeO.bind ?_ (fun _ => ?_))
   | exact ih0 _ _ _ _ _
   | exact LeO.none _
   | refine LeO.ite ?_ ?_
   | refine LeO.bind ?_ (fun _ => ?_)
theorem r1_Order.mono : ∀ a0 a1 a2 a3 k, LeO (r1_Order.f k a0 a1 a2 a3) (r1_Order.f (k + 1) a0 a1 a2 a3) := by
 intro a0 a1 a2 a3 k; have ih0 := r1_Order.mono_l k; unfold r1_Order.f
 repeat' first
   | (with_reducible exact ih0 _ _ _ _ _)
   | (with_reducible exact LeO.refl _)
   | (with_reducible exact LeO.none _)
   | (with_reducible refine LeO.ite ?_ ?_)
   | (with_reducible refine LeO.bind ?_ (fun _ => ?_))
   | exact ih0 _ _ _ _ _
   | exact LeO.none _
   | refine LeO.ite ?_ ?_
   | refine LeO.bind ?_ (fun _ => ?_)
set_option maxHeartbeats 8000000 in
set_option maxRecDepth 100000 in
theorem r1_Order.calls (k : Nat) (a0_0 : Int) (a0_1 : Int) (a1_0 : Int) (a1_1 : Int) (r : Int) (w : World) (h : r1_Order.f k a0_0 a0_1 a1_0 a1_1 = some r) :
  Calls Try.prog 70 #[.agg #[.int .u64 a0_0, .int .u64 a0_1], .agg #[.int .u64 a1_0, .int .u64 a1_1]] w fun e w' => e = .returned (.int .i64 r) ∧ Below w.heap.size w w' := by
 have hu61 := Try.underlying61; have HB := Aside0.mk (Below.refl w.heap.size w); have H : (if a0_0 < a1_0 then (r1_Order.j0 k true a0_0 a0_1 a1_0 a1_1) else (if a0_0 = a1_0 then (r1_Order.j0 k (decide (a0_1 < a1_1)) a0_0 a0_1 a1_0 a1_1) else (r1_Order.j0 k false a0_0 a0_1 a1_0 a1_1))) = some r := h; clear h; have HC3 := Aside0.mk H; clear H; go_enter Try.func70, Try.ntmps70
 go_upto_region 1 with (first | ((with_reducible refine gate_dst (N := 2) rfl ?_); refine bx (N := 2) (cs := #[.int .u64 a0_0, .int .u64 a0_1]) (t := 61) ?_; intro gb207 hg w4 hbox hb; have BK207 := Aside0.mk (hbox); have GW207 := gs HB hg; have GE207 := gs HB hg; replace HB := wb HB hb; clear hb hbox hg) | ((with_reducible refine gate_dst (N := 3) rfl ?_); refine bx (N := 3) (cs := #[.int .u64 a1_0, .int .u64 a1_1]) (t := 61) ?_; intro gb208 hg w5 hbox hb; have BK208 := Aside0.mk (hbox); have GW208 := gs HB hg; have GE208 := gs HB hg; have NB207_208 := nl BK207 hg; have NB208_207 := nr BK207 hg; replace BK207 := kb BK207 hb; replace HB := wb HB hb; clear hb hbox hg))
 (try simp only [Act.put, List.setIfInBounds_toArray, List.set_cons_zero, List.set_cons_succ])
 go_cut [23] (fun v23 wc => ∃ (kq : Nat) (x23_2 : Bool), v23 = .bool x23_2 ∧ Aside0 (r1_Order.j0 kq x23_2 a0_0 a0_1 a1_0 a1_1 = some r) ∧ Aside0 (kq ≤ k) ∧ Aside0 (wc.heap[gb207]? = some (.cells #[.int .u64 a0_0, .int .u64 a0_1] 61 (0, 0))) ∧ Aside0 (wc.heap[gb208]? = some (.cells #[.int .u64 a1_0, .int .u64 a1_1] 61 (0, 0))) ∧ Aside0 (Below w.heap.size w wc))
 case first =>
  have H := HC3.out; clear HC3
  by_cases c6 : a0_0 < a1_0
  ·rw [if_pos c6] at H; have c6b0 : decide (a0_0 < a1_0) = true := decide_eq_true c6; clear c6
   (first | rw [c6b0] | (simp only [i64_w, i32_w]; rw [c6b0]) | skip)
   have H' := Aside0.mk H; clear H; obtain ⟨hnb7, hnc7⟩ := n2 NB207_208; have hcz8_0 : w5.cell? ⟨gb207, 0, none⟩ = some (.int .u64 a0_0) := bc BK207 0; have hcz8_1 : w5.cell? ⟨gb207, 1, none⟩ = some (.int .u64 a0_1) := bc BK207 1; have hfz8_0 := blk_frozen BK207.out 0; have hfz8_1 := blk_frozen BK207.out 1; have hcz9_0 : w5.cell? ⟨gb208, 0, none⟩ = some (.int .u64 a1_0) := bc BK208 0; have hcz9_1 : w5.cell? ⟨gb208, 1, none⟩ = some (.int .u64 a1_1) := bc BK208 1; have hfz9_0 := blk_frozen BK208.out 0; have hfz9_1 := blk_frozen BK208.out 1; go_wp2
   go_meet
   case rel => exact ⟨_, (true), (by first | rfl | (simp; done) | (simp [*]; done)), H', ⟨by first | omega | exact Nat.le_refl _⟩, ⟨bq BK207⟩, ⟨bq BK208⟩, ⟨bw HB⟩⟩
  ·rw [if_neg c6] at H; have c6b0 : decide (a0_0 < a1_0) = false := decide_eq_false c6; clear c6
   (first | rw [c6b0] | (simp only [i64_w, i32_w]; rw [c6b0]) | skip)
   by_cases c10 : a0_0 = a1_0
   ·rw [if_pos c10] at H; have c10b0 : (a0_0 == a1_0) = true := beq_iff_eq.mpr c10; have c10b1 : (a0_0 != a1_0) = false := bne_eq_false_iff_eq.mpr c10; clear c10; have H' := Aside0.mk H; clear H; obtain ⟨hnb11, hnc11⟩ := n2 NB207_208; have hcz12_0 : w5.cell? ⟨gb207, 0, none⟩ = some (.int .u64 a0_0) := bc BK207 0; have hcz12_1 : w5.cell? ⟨gb207, 1, none⟩ = some (.int .u64 a0_1) := bc BK207 1; have hfz12_0 := blk_frozen BK207.out 0; have hfz12_1 := blk_frozen BK207.out 1; have hcz13_0 : w5.cell? ⟨gb208, 0, none⟩ = some (.int .u64 a1_0) := bc BK208 0; have hcz13_1 : w5.cell? ⟨gb208, 1, none⟩ = some (.int .u64 a1_1) := bc BK208 1; have hfz13_0 := blk_frozen BK208.out 0; have hfz13_1 := blk_frozen BK208.out 1; go_wp2
    go_meet
    case rel => exact ⟨_, (decide (a0_1 < a1_1)), (by first | rfl | (simp; done) | (simp [*]; done)), H', ⟨by first | omega | exact Nat.le_refl _⟩, ⟨bq BK207⟩, ⟨bq BK208⟩, ⟨bw HB⟩⟩
   ·rw [if_neg c10] at H; have c10b0 : (a0_0 == a1_0) = false := beq_eq_false_iff_ne.mpr c10; have c10b1 : (a0_0 != a1_0) = true := bne_iff_ne.mpr c10; have H' := Aside0.mk H; clear H; obtain ⟨hnb14, hnc14⟩ := n2 NB207_208; have hcz15_0 : w5.cell? ⟨gb207, 0, none⟩ = some (.int .u64 a0_0) := bc BK207 0; have hcz15_1 : w5.cell? ⟨gb207, 1, none⟩ = some (.int .u64 a0_1) := bc BK207 1; have hfz15_0 := blk_frozen BK207.out 0; have hfz15_1 := blk_frozen BK207.out 1; have hcz16_0 : w5.cell? ⟨gb208, 0, none⟩ = some (.int .u64 a1_0) := bc BK208 0; have hcz16_1 : w5.cell? ⟨gb208, 1, none⟩ = some (.int .u64 a1_1) := bc BK208 1; have hfz16_0 := blk_frozen BK208.out 0; have hfz16_1 := blk_frozen BK208.out 1; go_wp2
    go_meet
    case rel => exact ⟨_, (false), (by first | rfl | (simp; done) | (simp [*]; done)), H', ⟨by first | omega | exact Nat.le_refl _⟩, ⟨bq BK207⟩, ⟨bq BK208⟩, ⟨bw HB⟩⟩
 case rest =>
  clear HC3; (try clear c1); (try clear p2); (try clear c6); (try clear c6b0); (try clear c7); (try clear c10); (try clear c10b0); (try clear c10b1); (try clear c11); (try clear c14); (try clear hcz12_0); (try clear hcz12_1); (try clear hcz13_0); (try clear hcz13_1); (try clear hcz15_0); (try clear hcz15_1); (try clear hcz16_0); (try clear hcz16_1); (try clear hcz8_0); (try clear hcz8_1); (try clear hcz9_0); (try clear hcz9_1); (try clear hfz12_0); (try clear hfz12_1); (try clear hfz13_0); (try clear hfz13_1); (try clear hfz15_0); (try clear hfz15_1); (try clear hfz16_0); (try clear hfz16_1); (try clear hfz8_0); (try clear hfz8_1); (try clear hfz9_0); (try clear hfz9_1); obtain ⟨kq, x23_2, rfl, HA, HJ2, BK207, BK208, HB⟩ := hcut
  cases kq with
  | zero => exact absurd HA.out (by simp [r1_Order.j0])
  | succ kj2 =>
   have H := HA.out; clear HA; simp only [r1_Order.j0] at H
   by_cases c17 : x23_2 = true
   ·subst c17; (have H1 : (some (-1)) = some r := by rw [if_pos rfl] at H; exact H); clear H; have H := H1; clear H1; obtain rfl := Option.some.inj H; (go_wp2); (go_ret); exact ⟨by first | rfl | (simp [errW_none, errW_some] <;> rfl) | (simp [*, errW_none, errW_some] <;> rfl), bw HB⟩
   ·replace c17 := Bool.eq_false_iff.mpr c17; subst c17; (have H1 : (if (a0_0 == a1_0 && (a0_1 == a1_1)) = true then (some 0) else (some 1)) = some r := by rw [if_neg (show ¬ (false = true) by decide)] at H; exact H); clear H; have H := H1; clear H1
    by_cases c18 : (a0_0 == a1_0 && (a0_1 == a1_1)) = true
    ·rw [if_pos c18] at H; have c18b0 : (a0_0 == a1_0 && (a0_1 == a1_1)) = true := c18; (try (have c18b1 : decide (a0_0 = a1_0 && (a0_1 == a1_1)) = true := by simpa using c18)); (try (have c18b2 : (a0_0 == a1_0 && (a0_1 == a1_1)) = true := by simpa using c18)); clear c18; obtain rfl := Option.some.inj H; obtain ⟨hnb19, hnc19⟩ := n2 NB207_208; have hcz20_0 : wc.cell? ⟨gb207, 0, none⟩ = some (.int .u64 a0_0) := bc BK207 0; have hcz20_1 : wc.cell? ⟨gb207, 1, none⟩ = some (.int .u64 a0_1) := bc BK207 1; have hfz20_0 := blk_frozen BK207.out 0; have hfz20_1 := blk_frozen BK207.out 1; have hcz21_0 : wc.cell? ⟨gb208, 0, none⟩ = some (.int .u64 a1_0) := bc BK208 0; have hcz21_1 : wc.cell? ⟨gb208, 1, none⟩ = some (.int .u64 a1_1) := bc BK208 1; have hfz21_0 := blk_frozen BK208.out 0; have hfz21_1 := blk_frozen BK208.out 1; (go_wp2); (go_ret); exact ⟨by first | rfl | (simp [errW_none, errW_some] <;> rfl) | (simp [*, errW_none, errW_some] <;> rfl), bw HB⟩
    ·rw [if_neg c18] at H; (have c18b0 : (a0_0 == a1_0 && (a0_1 == a1_1)) = false := by simpa using c18); (try (have c18b1 : decide (a0_0 = a1_0 && (a0_1 == a1_1)) = false := by simpa using c18)); (try (have c18b2 : (a0_0 == a1_0 && (a0_1 == a1_1)) = false := by simpa using c18)); (try (have c18b3 : ¬ (a0_0 = a1_0 && (a0_1 == a1_1)) := by simpa using c18)); clear c18; obtain rfl := Option.some.inj H; obtain ⟨hnb22, hnc22⟩ := n2 NB207_208; have hcz23_0 : wc.cell? ⟨gb207, 0, none⟩ = some (.int .u64 a0_0) := bc BK207 0; have hcz23_1 : wc.cell? ⟨gb207, 1, none⟩ = some (.int .u64 a0_1) := bc BK207 1; have hfz23_0 := blk_frozen BK207.out 0; have hfz23_1 := blk_frozen BK207.out 1; have hcz24_0 : wc.cell? ⟨gb208, 0, none⟩ = some (.int .u64 a1_0) := bc BK208 0; have hcz24_1 : wc.cell? ⟨gb208, 1, none⟩ = some (.int .u64 a1_1) := bc BK208 1; have hfz24_0 := blk_frozen BK208.out 0; have hfz24_1 := blk_frozen BK208.out 1; (go_wp2); (go_ret); exact ⟨by first | rfl | (simp [errW_none, errW_some] <;> rfl) | (simp [*, errW_none, errW_some] <;> rfl), bw HB⟩

end Go.Proofs.Ytcbohbeipgcfhaa.G

-- Printed by gp.py (a program of this session's own, over the kit's printer) out of the translation; Lean checks it.
namespace Go.Proofs.Ytcbohbeipgcfhaa.G
open Go.Proofs.Ytcbohbeipgcfhaa.Given Go.Proofs.Ytcbohbeipgcfhaa.Short
open Go.RowKit Go.Proofs.YtcbohbeipgcfhaaW.PrintWords Go.Proofs.YtcbohbeipgcfhaaW.PrintLast Go.Proofs.YtcbohbeipgcfhaaW.PrintMore
attribute [local go_sem] max2_int min2_int max_two min_two max_three min_three max_four min_four   -- for this text's walks alone
set_option linter.unusedVariables false
set_option linter.unusedSimpArgs false

/-! ### r1_Minus: function 71 -/
def r1_Minus.f (a0_0 : Int) (a0_1 : Int) (a1_0 : Int) (a1_1 : Int) : Option (Int × Int) := (bits_Sub64.f a0_1 a1_1 0).bind fun bt212 => ((bits_Sub64.f a0_0 a1_0 bt212.2).bind fun bt214 => (some (bt214.1, bt212.1)))
set_option maxHeartbeats 8000000 in
set_option maxRecDepth 100000 in
theorem r1_Minus.calls (a0_0 : Int) (a0_1 : Int) (a1_0 : Int) (a1_1 : Int) (r1 : Int) (r2 : Int) (w : World) (h : r1_Minus.f a0_0 a0_1 a1_0 a1_1 = some (r1, r2)) :
  Calls Try.prog 71 #[.agg #[.int .u64 a0_0, .int .u64 a0_1], .agg #[.int .u64 a1_0, .int .u64 a1_1]] w fun e w' => e = .returned (.agg #[.int .u64 r1, .int .u64 r2]) ∧ Below w.heap.size w w' := by
 have hu61 := Try.underlying61; have HB := Aside0.mk (Below.refl w.heap.size w); have H : ((bits_Sub64.f a0_1 a1_1 0).bind fun bt212 => ((bits_Sub64.f a0_0 a1_0 bt212.2).bind fun bt214 => (some (bt214.1, bt212.1)))) = some (r1, r2) := h; clear h; replace H := Option.bind_eq_some_iff.mp H; obtain ⟨⟨t212, t213⟩, A30, H⟩ := H; (try dsimp only at H); have A3 := Aside0.mk A30; clear A30; replace H := Option.bind_eq_some_iff.mp H; obtain ⟨⟨t214, t215⟩, A40, H⟩ := H; (try dsimp only at H); have A4 := Aside0.mk A40; clear A40; simp only [Option.some.injEq, Prod.mk.injEq] at H; obtain ⟨rfl, rfl⟩ := H; (go_enter Try.func71, Try.ntmps71); (go_wp2_with (first | ((with_reducible refine gate_dst (N := 2) rfl ?_); refine bx (N := 2) (cs := #[.int .u64 a0_0, .int .u64 a0_1]) (t := 61) ?_; intro gb209 hg w5 hbox hb; have BK209 := Aside0.mk (hbox); have GW209 := gs HB hg; have GE209 := gs HB hg; replace HB := wb HB hb; clear hb hbox hg) | ((with_reducible refine gate_dst (N := 3) rfl ?_); refine bx (N := 3) (cs := #[.int .u64 a1_0, .int .u64 a1_1]) (t := 61) ?_; intro gb210 hg w6 hbox hb; have BK210 := Aside0.mk (hbox); have GW210 := gs HB hg; have GE210 := gs HB hg; have NB209_210 := nl BK209 hg; have NB210_209 := nr BK209 hg; replace BK209 := kb BK209 hb; replace HB := wb HB hb; clear hb hbox hg) | ((with_reducible refine gate_dst (N := 4) rfl ?_); refine bx (N := 4) (cs := #[.int .u64 0, .int .u64 0]) (t := 61) ?_; intro gb211 hg w7 hbox hb; have BK211 := Aside0.mk (hbox); have GW211 := gs HB hg; have GE211 := gs HB hg; have NB209_211 := nl BK209 hg; have NB211_209 := nr BK209 hg; have NB210_211 := nl BK210 hg; have NB211_210 := nr BK210 hg; replace BK209 := kb BK209 hb; replace BK210 := kb BK210 hb; replace HB := wb HB hb; clear hb hbox hg; obtain ⟨hnb8, hnc8⟩ := n2 NB209_210; obtain ⟨hnb9, hnc9⟩ := n2 NB209_211; have hcz10_0 : w7.cell? ⟨gb209, 0, none⟩ = some (.int .u64 a0_0) := bc BK209 0; have hcz10_1 : w7.cell? ⟨gb209, 1, none⟩ = some (.int .u64 a0_1) := bc BK209 1; have hfz10_0 := blk_frozen BK209.out 0; have hfz10_1 := blk_frozen BK209.out 1; obtain ⟨hnb11, hnc11⟩ := n2 NB210_211; have hcz12_0 : w7.cell? ⟨gb210, 0, none⟩ = some (.int .u64 a1_0) := bc BK210 0; have hcz12_1 : w7.cell? ⟨gb210, 1, none⟩ = some (.int .u64 a1_1) := bc BK210 1; have hfz12_0 := blk_frozen BK210.out 0; have hfz12_1 := blk_frozen BK210.out 1) | ((with_reducible refine gate_callee (f := 74) rfl ?_); refine gx (some 14) Try.func74 #[.int .u64 a0_1, .int .u64 a1_1, .int .u64 0] ?_; (with_reducible refine (bits_Sub64.calls a0_1 a1_1 0 t212 t213 _ A3.out).mono ?_); rintro e w13 ⟨rfl, hb⟩; refine ⟨_, rfl, ?_⟩; replace BK209 := kb BK209 hb; replace BK210 := kb BK210 hb; replace BK211 := kb BK211 hb; replace HB := wb HB hb; (try clear hb); (try clear hb2); (try clear hk); (try clear hi); have hcz14_0 : w13.cell? ⟨gb209, 0, none⟩ = some (.int .u64 a0_0) := bc BK209 0; have hcz14_1 : w13.cell? ⟨gb209, 1, none⟩ = some (.int .u64 a0_1) := bc BK209 1; have hfz14_0 := blk_frozen BK209.out 0; have hfz14_1 := blk_frozen BK209.out 1; have hcz15_0 : w13.cell? ⟨gb210, 0, none⟩ = some (.int .u64 a1_0) := bc BK210 0; have hcz15_1 : w13.cell? ⟨gb210, 1, none⟩ = some (.int .u64 a1_1) := bc BK210 1; have hfz15_0 := blk_frozen BK210.out 0; have hfz15_1 := blk_frozen BK210.out 1) | ((with_reducible refine gate_callee (f := 74) rfl ?_); refine gx (some 23) Try.func74 #[.int .u64 a0_0, .int .u64 a1_0, .int .u64 t213] ?_; (with_reducible refine (bits_Sub64.calls a0_0 a1_0 t213 t214 t215 _ A4.out).mono ?_); rintro e w16 ⟨rfl, hb⟩; refine ⟨_, rfl, ?_⟩; replace BK209 := kb BK209 hb; replace BK210 := kb BK210 hb; replace BK211 := kb BK211 hb; replace HB := wb HB hb; (try clear hb); (try clear hb2); (try clear hk); (try clear hi); have hcz17_0 : w16.cell? ⟨gb211, 0, none⟩ = some (.int .u64 0) := bc BK211 0; have hcz17_1 : w16.cell? ⟨gb211, 1, none⟩ = some (.int .u64 0) := bc BK211 1; have hfz17_0 := blk_frozen BK211.out 0; have hfz17_1 := blk_frozen BK211.out 1))); refine bodyPost_ret (results_cell_row rfl _ _ gb211 61 #[.int .u64 t214, .int .u64 t212] (0, 0) _ rfl (by refine pe ?_; refine blk_put (cs := #[.int .u64 t214, .int .u64 0]) ?_ 1 _ rfl; refine pe ?_; refine blk_put (cs := #[.int .u64 0, .int .u64 0]) ?_ 0 _ rfl; refine pe ?_; exact BK211.out) Try.underlying61 rfl (by kernel_rfl)) rfl ?_; exact ⟨by first | rfl | (simp [errW_none, errW_some] <;> rfl) | (simp [*, errW_none, errW_some] <;> rfl), bw HB⟩

end Go.Proofs.Ytcbohbeipgcfhaa.G

-- Printed by gp.py (a program of this session's own, over the kit's printer) out of the translation; Lean checks it.
namespace Go.Proofs.Ytcbohbeipgcfhaa.G
open Go.Proofs.Ytcbohbeipgcfhaa.Given Go.Proofs.Ytcbohbeipgcfhaa.Short
open Go.RowKit Go.Proofs.YtcbohbeipgcfhaaW.PrintWords Go.Proofs.YtcbohbeipgcfhaaW.PrintLast Go.Proofs.YtcbohbeipgcfhaaW.PrintMore
attribute [local go_sem] max2_int min2_int max_two min_two max_three min_three max_four min_four   -- for this text's walks alone
set_option linter.unusedVariables false
set_option linter.unusedSimpArgs false

/-! ### r1_Twice: function 75 -/
def r1_Twice.f (a0_0 : Int) (a0_1 : Int) : Option (Int × Int) := some (Go.bits .or .u64 (IntKind.u64.wrap (a0_0 * 2)) (a0_1 / 9223372036854775808), IntKind.u64.wrap (a0_1 * 2))
set_option maxHeartbeats 8000000 in
set_option maxRecDepth 100000 in
theorem r1_Twice.calls (a0_0 : Int) (a0_1 : Int) (r1 : Int) (r2 : Int) (w : World) (h : r1_Twice.f a0_0 a0_1 = some (r1, r2)) :
  Calls Try.prog 75 #[.agg #[.int .u64 a0_0, .int .u64 a0_1]] w fun e w' => e = .returned (.agg #[.int .u64 r1, .int .u64 r2]) ∧ Below w.heap.size w w' := by
 have hu61 := Try.underlying61; have HB := Aside0.mk (Below.refl w.heap.size w); have H : (some (Go.bits .or .u64 (IntKind.u64.wrap (a0_0 * 2)) (a0_1 / 9223372036854775808), IntKind.u64.wrap (a0_1 * 2))) = some (r1, r2) := h; clear h; simp only [Option.some.injEq, Prod.mk.injEq] at H; obtain ⟨rfl, rfl⟩ := H; (go_enter Try.func75, Try.ntmps75); (go_wp2_with (first | ((with_reducible refine gate_dst (N := 1) rfl ?_); refine bx (N := 1) (cs := #[.int .u64 a0_0, .int .u64 a0_1]) (t := 61) ?_; intro gb216 hg w2 hbox hb; have BK216 := Aside0.mk (hbox); have GW216 := gs HB hg; have GE216 := gs HB hg; replace HB := wb HB hb; clear hb hbox hg) | ((with_reducible refine gate_dst (N := 2) rfl ?_); refine bx (N := 2) (cs := #[.int .u64 0, .int .u64 0]) (t := 61) ?_; intro gb217 hg w3 hbox hb; have BK217 := Aside0.mk (hbox); have GW217 := gs HB hg; have GE217 := gs HB hg; have NB216_217 := nl BK216 hg; have NB217_216 := nr BK216 hg; replace BK216 := kb BK216 hb; replace HB := wb HB hb; clear hb hbox hg; obtain ⟨hnb4, hnc4⟩ := n2 NB216_217; have hcz5_0 : w3.cell? ⟨gb216, 0, none⟩ = some (.int .u64 a0_0) := bc BK216 0; have hcz5_1 : w3.cell? ⟨gb216, 1, none⟩ = some (.int .u64 a0_1) := bc BK216 1; have hfz5_0 := blk_frozen BK216.out 0; have hfz5_1 := blk_frozen BK216.out 1; have hcz6_0 : w3.cell? ⟨gb217, 0, none⟩ = some (.int .u64 0) := bc BK217 0; have hcz6_1 : w3.cell? ⟨gb217, 1, none⟩ = some (.int .u64 0) := bc BK217 1; have hfz6_0 := blk_frozen BK217.out 0; have hfz6_1 := blk_frozen BK217.out 1))); refine bodyPost_ret (results_cell_row rfl _ _ gb217 61 #[.int .u64 (Go.bits .or .u64 (IntKind.u64.wrap (a0_0 * 2)) (a0_1 / 9223372036854775808)), .int .u64 (IntKind.u64.wrap (a0_1 * 2))] (0, 0) _ rfl (by refine pe ?_; refine blk_put (cs := #[.int .u64 (Go.bits .or .u64 (IntKind.u64.wrap (a0_0 * 2)) (a0_1 / 9223372036854775808)), .int .u64 0]) ?_ 1 _ rfl; refine pe ?_; refine blk_put (cs := #[.int .u64 0, .int .u64 0]) ?_ 0 _ rfl; refine pe ?_; exact BK217.out) Try.underlying61 rfl (by kernel_rfl)) rfl ?_; exact ⟨by first | rfl | (simp [errW_none, errW_some] <;> rfl) | (simp [*, errW_none, errW_some] <;> rfl), bw HB⟩

end Go.Proofs.Ytcbohbeipgcfhaa.G
