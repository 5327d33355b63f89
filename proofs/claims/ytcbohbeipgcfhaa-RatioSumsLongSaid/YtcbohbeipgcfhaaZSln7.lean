/- Texts of this claim laid together: Gf12, MathA, MathDiv, MathDivB, Gf70, Gf71, Gf75. -/
import Derived.Test.YtcbohbeipgcfhaaShortC
import Derived.Test.YtcbohbeipgcfhaaG0
import Derived.Test.YtcbohbeipgcfhaaGe0
import Derived.Test.YtcbohbeipgcfhaaZSln2
import Derived.Test.YtcbohbeipgcfhaaZSln4
import Derived.Test.YtcbohbeipgcfhaaZSln6
import Derived.Test.YtcbohbeipgcfhaaZSln1
import Derived.Test.YtcbohbeipgcfhaaGe1
import Derived.Laws.Bits64b
-- Printed by gp.py (a program of this session's own, over the kit's printer) out of the translation; Lean checks it.
namespace Go.Proofs.Ytcbohbeipgcfhaa.G
open Go.Proofs.Ytcbohbeipgcfhaa.Given Go.Proofs.Ytcbohbeipgcfhaa.Short
open Go.RowKit Go.Proofs.YtcbohbeipgcfhaaW.PrintWords Go.Proofs.YtcbohbeipgcfhaaW.PrintLast Go.Proofs.YtcbohbeipgcfhaaW.PrintMore
attribute [local go_sem] max2_int min2_int max_two min_two max_three min_three max_four min_four   -- for this text's walks alone
set_option linter.unusedVariables false
set_option linter.unusedSimpArgs false

attribute [local go_sem high] eqA35
/-! ### awardingbodylaw01_RatioSumsLong: function 12 -/
def awardingbodylaw01_RatioSumsLong.l0 : Nat → Int → Int → Int → Int → List (S35) → Int → Int → Int → Int → Int → Option (Bool)
 | 0, _, _, _, _, _, _, _, _, _, _ => none
 | k + 1, x0, x8, x10, x12, x13, x14, x777000, x777001, x785000, x785001 => if x14 < x0 then (if x13.length < 8796093022208 then (awardingbodylaw01_RatioSumsLong.l0 k x0 x8 x10 x12 (x13 ++ [(⟨x777000, x777001⟩ : S35)]) (wrap64 (x14 + 1)) x777000 x777001 x785000 x785001) else (none)) else ((ratio_Sum.f k x13).bind fun bt788 => (if x0 > 100 then (if (bt788.1 == 0 && (bt788.2.1 == 0)) = true then (if bt788.2.2 = 3 then ((awardingbodylaw01_awake.f k).bind fun t792 => (some t792)) else (some false)) else (some false)) else (if x8 = 0 then (if x10 = 0 then (if x12 = 0 then (if bt788.2.2 = 0 then (if (bt788.1 == x785000 && (bt788.2.1 == x785001)) = true then ((awardingbodylaw01_awake.f k).bind fun t793 => (some t793)) else (some false)) else (some false)) else (some false)) else (some false)) else (some false))))
def awardingbodylaw01_RatioSumsLong.f (k : Nat) (a0 : Int) (a1 : Int) (a2 : Int) : Option (Bool) := (mk_Cut.f a0 110).bind fun t770 => ((mk_Cut.f a1 1000).bind fun t771 => ((mk_Cut.f a2 1000).bind fun t772 => ((ratio_New.f k (wrap64 (t771 - 500)) (wrap64 (1 + t772))).bind fun bt773 => ((ratio_New.f k t770 1).bind fun bt777 => ((ratio_Mul.f k bt773.1 bt773.2.1 bt777.1 bt777.2.1).bind fun bt781 => (awardingbodylaw01_RatioSumsLong.l0 k t770 bt773.2.2 bt777.2.2 bt781.2.2 ([] : List (S35)) 0 bt773.1 bt773.2.1 bt781.1 bt781.2.1))))))
theorem awardingbodylaw01_RatioSumsLong.mono_l : ∀ k, (∀ y0 y1 y2 y3 y4 y5 y6 y7 y8 y9, LeO (awardingbodylaw01_RatioSumsLong.l0 k y0 y1 y2 y3 y4 y5 y6 y7 y8 y9) (awardingbodylaw01_RatioSumsLong.l0 (k + 1) y0 y1 y2 y3 y4 y5 y6 y7 y8 y9))
 | 0 => fun _ _ _ _ _ _ _ _ _ _ r h => by simp [awardingbodylaw01_RatioSumsLong.l0] at h
 | k + 1 => by
  have ih0 := awardingbodylaw01_RatioSumsLong.mono_l k
  ·intro y0 y1 y2 y3 y4 y5 y6 y7 y8 y9; unfold awardingbodylaw01_RatioSumsLong.l0
   repeat' first
   | (with_reducible exact ih0 _ _ _ _ _ _ _ _ _ _)
   | (with_reducible exact awardingbodylaw01_awake.mono _)
   | (with_reducible exact ratio_Mul.mono _ _ _ _ _)
   | (with_reducible exact ratio_New.mono _ _ _)
   | (with_reducible exact ratio_Sum.mono _ _)
   | (with_reducible exact LeO.refl _)
   | (with_reducible exact LeO.none _)
   | (with_reducible refine LeO.ite ?_ ?_)
   | (with_reducible refine LeO.bind ?_ (fun _ => ?_))
   | exact ih0 _ _ _ _ _ _ _ _ _ _
   | exact awardingbodylaw01_awake.mono _
   | exact ratio_Mul.mono _ _ _ _ _
   | exact ratio_New.mono _ _ _
   | exact ratio_Sum.mono _ _
   | exact LeO.none _
   | refine LeO.ite ?_ ?_
   | refine LeO.bind ?_ (fun _ => ?_)
theorem awardingbodylaw01_RatioSumsLong.mono : ∀ a0 a1 a2 k, LeO (awardingbodylaw01_RatioSumsLong.f k a0 a1 a2) (awardingbodylaw01_RatioSumsLong.f (k + 1) a0 a1 a2) := by
 intro a0 a1 a2 k; have ih0 := awardingbodylaw01_RatioSumsLong.mono_l k; unfold awardingbodylaw01_RatioSumsLong.f
 repeat' first
   | (with_reducible exact ih0 _ _ _ _ _ _ _ _ _ _)
   | (with_reducible exact awardingbodylaw01_awake.mono _)
   | (with_reducible exact ratio_Mul.mono _ _ _ _ _)
   | (with_reducible exact ratio_New.mono _ _ _)
   | (with_reducible exact ratio_Sum.mono _ _)
   | (with_reducible exact LeO.refl _)
   | (with_reducible exact LeO.none _)
   | (with_reducible refine LeO.ite ?_ ?_)
   | (with_reducible refine LeO.bind ?_ (fun _ => ?_))
   | exact ih0 _ _ _ _ _ _ _ _ _ _
   | exact awardingbodylaw01_awake.mono _
   | exact ratio_Mul.mono _ _ _ _ _
   | exact ratio_New.mono _ _ _
   | exact ratio_Sum.mono _ _
   | exact LeO.none _
   | refine LeO.ite ?_ ?_
   | refine LeO.bind ?_ (fun _ => ?_)
set_option maxHeartbeats 8000000 in
set_option maxRecDepth 100000 in
theorem awardingbodylaw01_RatioSumsLong.calls (k : Nat) (a0 : Int) (a1 : Int) (a2 : Int) (r : Bool) (w : World) (h : awardingbodylaw01_RatioSumsLong.f k a0 a1 a2 = some r) :
  Calls Try.prog 12 #[.int .i64 a0, .int .i64 a1, .int .i64 a2] w fun e w' => e = .returned (.bool r) ∧ Below w.heap.size w w' := by
 have hu35 := Try.underlying35; have HB := Aside0.mk (Below.refl w.heap.size w); have H : ((mk_Cut.f a0 110).bind fun t770 => ((mk_Cut.f a1 1000).bind fun t771 => ((mk_Cut.f a2 1000).bind fun t772 => ((ratio_New.f k (wrap64 (t771 - 500)) (wrap64 (1 + t772))).bind fun bt773 => ((ratio_New.f k t770 1).bind fun bt777 => ((ratio_Mul.f k bt773.1 bt773.2.1 bt777.1 bt777.2.1).bind fun bt781 => (awardingbodylaw01_RatioSumsLong.l0 k t770 bt773.2.2 bt777.2.2 bt781.2.2 ([] : List (S35)) 0 bt773.1 bt773.2.1 bt781.1 bt781.2.1))))))) = some r := h; clear h; replace H := Option.bind_eq_some_iff.mp H; obtain ⟨t770, A40, H⟩ := H; (try dsimp only at H); have A4 := Aside0.mk A40; clear A40; replace H := Option.bind_eq_some_iff.mp H; obtain ⟨t771, A50, H⟩ := H; (try dsimp only at H); have A5 := Aside0.mk A50; clear A50; replace H := Option.bind_eq_some_iff.mp H; obtain ⟨t772, A60, H⟩ := H; (try dsimp only at H); have A6 := Aside0.mk A60; clear A60; replace H := Option.bind_eq_some_iff.mp H; obtain ⟨⟨t773, t774, t775⟩, A70, H⟩ := H; (try dsimp only at H); have A7 := Aside0.mk A70; clear A70; replace H := Option.bind_eq_some_iff.mp H; obtain ⟨⟨t777, t778, t779⟩, A80, H⟩ := H; (try dsimp only at H); have A8 := Aside0.mk A80; clear A80; replace H := Option.bind_eq_some_iff.mp H; obtain ⟨⟨t781, t782, t783⟩, A90, H⟩ := H; (try dsimp only at H); have A9 := Aside0.mk A90; clear A90; have H' := Aside0.mk H; clear H; (go_enter Try.func12, Try.ntmps12); (go_wp2_with (first | ((with_reducible refine gate_callee (f := 21) rfl ?_); refine gl (some 18) Try.func21 #[.int .i64 a0, .int .i64 110] ?_; (with_reducible refine (mk_Cut.calls a0 110 t770 _ A4.out).mono ?_); rintro e w' ⟨rfl, ⟨nd, rfl⟩⟩; refine ⟨_, rfl, ?_⟩) | ((with_reducible refine gate_callee (f := 21) rfl ?_); refine gl (some 21) Try.func21 #[.int .i64 a1, .int .i64 1000] ?_; (with_reducible refine (mk_Cut.calls a1 1000 t771 _ A5.out).mono ?_); rintro e w' ⟨rfl, ⟨nd, rfl⟩⟩; refine ⟨_, rfl, ?_⟩) | ((with_reducible refine gate_callee (f := 21) rfl ?_); refine gl (some 24) Try.func21 #[.int .i64 a2, .int .i64 1000] ?_; (with_reducible refine (mk_Cut.calls a2 1000 t772 _ A6.out).mono ?_); rintro e w' ⟨rfl, ⟨nd, rfl⟩⟩; refine ⟨_, rfl, ?_⟩) | ((with_reducible refine gate_callee (f := 22) rfl ?_); refine gl (some 26) Try.func22 #[.int .i64 (wrap64 (t771 - 500)), .int .i64 (wrap64 (1 + t772))] ?_; (with_reducible refine (ratio_New.calls k (wrap64 (t771 - 500)) (wrap64 (1 + t772)) t773 t774 t775 _ A7.out).mono ?_); rintro e w10 ⟨rfl, hb⟩; refine ⟨_, rfl, ?_⟩; replace HB := wb HB hb; (try clear hb); (try clear hb2); (try clear hk); (try clear hi)) | ((with_reducible refine gate_dst (N := 7) rfl ?_); refine bx (N := 7) (cs := #[.int .i64 0, .int .i64 0]) (t := 35) ?_; intro gb776 hg w11 hbox hb; have BK776 := Aside0.mk (hbox); have GW776 := gs HB hg; have GE776 := gs HB hg; replace HB := wb HB hb; clear hb hbox hg; have hcz12_0 : w11.cell? ⟨gb776, 0, none⟩ = some (.int .i64 0) := bc BK776 0; have hcz12_1 : w11.cell? ⟨gb776, 1, none⟩ = some (.int .i64 0) := bc BK776 1; have hfz12_0 := blk_frozen BK776.out 0; have hfz12_1 := blk_frozen BK776.out 1) | ((with_reducible refine gate_callee (f := 22) rfl ?_); refine gl (some 31) Try.func22 #[.int .i64 t770, .int .i64 1] ?_; (with_reducible refine (ratio_New.calls k t770 1 t777 t778 t779 _ A8.out).mono ?_); rintro e w13 ⟨rfl, hb⟩; refine ⟨_, rfl, ?_⟩; replace BK776 := Aside0.mk (blk_below (g := gb776) (o := .cells #[.int .i64 t773, .int .i64 t774] 35 (0, 0)) (by refine pe ?_; refine blk_put (cs := #[.int .i64 t773, .int .i64 0]) ?_ 1 _ rfl; refine pe ?_; refine blk_put (cs := #[.int .i64 0, .int .i64 0]) ?_ 0 _ rfl; refine pe ?_; exact BK776.out) hb); replace HB := wb HB hb; (try clear hb); (try clear hb2); (try clear hk); (try clear hi)) | ((with_reducible refine gate_dst (N := 9) rfl ?_); refine bx (N := 9) (cs := #[.int .i64 0, .int .i64 0]) (t := 35) ?_; intro gb780 hg w14 hbox hb; have BK780 := Aside0.mk (hbox); have GW780 := gs HB hg; have GE780 := gs HB hg; have NB776_780 := nl BK776 hg; have NB780_776 := nr BK776 hg; replace BK776 := kb BK776 hb; replace HB := wb HB hb; clear hb hbox hg; obtain ⟨hnb15, hnc15⟩ := n2 NB780_776; have hcz16_0 : w14.cell? ⟨gb780, 0, none⟩ = some (.int .i64 0) := bc BK780 0; have hcz16_1 : w14.cell? ⟨gb780, 1, none⟩ = some (.int .i64 0) := bc BK780 1; have hfz16_0 := blk_frozen BK780.out 0; have hfz16_1 := blk_frozen BK780.out 1; have hcz17_0 : w14.cell? ⟨gb776, 0, none⟩ = some (.int .i64 t773) := bc BK776 0; have hcz17_1 : w14.cell? ⟨gb776, 1, none⟩ = some (.int .i64 t774) := bc BK776 1; have hfz17_0 := blk_frozen BK776.out 0; have hfz17_1 := blk_frozen BK776.out 1) | ((with_reducible refine gate_callee (f := 27) rfl ?_); refine gl (some 37) Try.func27 #[.agg #[.int .i64 t773, .int .i64 t774], .agg #[.int .i64 t777, .int .i64 t778]] ?_; (with_reducible refine (ratio_Mul.calls k t773 t774 t777 t778 t781 t782 t783 _ A9.out).mono ?_); rintro e w18 ⟨rfl, hb⟩; refine ⟨_, rfl, ?_⟩; replace BK776 := kb BK776 hb; replace BK780 := Aside0.mk (blk_below (g := gb780) (o := .cells #[.int .i64 t777, .int .i64 t778] 35 (0, 0)) (by refine pe ?_; refine blk_put (cs := #[.int .i64 t777, .int .i64 0]) ?_ 1 _ rfl; refine pe ?_; refine blk_put (cs := #[.int .i64 0, .int .i64 0]) ?_ 0 _ rfl; refine pe ?_; exact BK780.out) hb); replace HB := wb HB hb; (try clear hb); (try clear hb2); (try clear hk); (try clear hi)) | ((with_reducible refine gate_dst (N := 11) rfl ?_); refine bx (N := 11) (cs := #[.int .i64 0, .int .i64 0]) (t := 35) ?_; intro gb784 hg w19 hbox hb; have BK784 := Aside0.mk (hbox); have GW784 := gs HB hg; have GE784 := gs HB hg; have NB776_784 := nl BK776 hg; have NB784_776 := nr BK776 hg; have NB780_784 := nl BK780 hg; have NB784_780 := nr BK780 hg; replace BK776 := kb BK776 hb; replace BK780 := kb BK780 hb; replace HB := wb HB hb; clear hb hbox hg; obtain ⟨hnb20, hnc20⟩ := n2 NB784_776; obtain ⟨hnb21, hnc21⟩ := n2 NB784_780; have hcz22_0 : w19.cell? ⟨gb784, 0, none⟩ = some (.int .i64 0) := bc BK784 0; have hcz22_1 : w19.cell? ⟨gb784, 1, none⟩ = some (.int .i64 0) := bc BK784 1; have hfz22_0 := blk_frozen BK784.out 0; have hfz22_1 := blk_frozen BK784.out 1))); (try simp only [Act.put, List.setIfInBounds_toArray, List.set_cons_zero, List.set_cons_succ])
 go_loopg [13, 14] k (fun kq v13 v14 w' => ∃ (x13_1 : List (S35)) (x14_1 : Int), v14 = .int .i64 x14_1 ∧ Aside0 (awardingbodylaw01_RatioSumsLong.l0 kq t770 t775 t779 t783 x13_1 x14_1 t773 t774 t781 t782 = some r) ∧ Aside0 (kq ≤ k) ∧ Aside0 (Kd.R k35 35 w' w.heap.size (fun k_ => k_ ≠ gb776 ∧ k_ ≠ gb780 ∧ k_ ≠ gb784) v13 x13_1) ∧ Aside0 (w'.heap[gb776]? = some (.cells #[.int .i64 t773, .int .i64 t774] 35 (0, 0))) ∧ Aside0 (w'.heap[gb780]? = some (.cells #[.int .i64 t777, .int .i64 t778] 35 (0, 0))) ∧ Aside0 (w'.heap[gb784]? = some (.cells #[.int .i64 t781, .int .i64 t782] 35 (0, 0))) ∧ Aside0 (Below w.heap.size w w'))
 case atStart => exact ⟨(([] : List (S35))), (0), (by first | rfl | (simp; done) | (simp [*]; done)), H', ⟨Nat.le_refl _⟩, ⟨by first | exact Kd.R_nil _ _ _ _ _ | exact Kd.N_nil _ _ _ _ _ | exact Kd.V_nil _ _ _ _ _ | exact Kd.Q_nil _ _ _ _ _ | exact Kd.S_nil _ _ _ _ _⟩, ⟨bq BK776⟩, ⟨bq BK780⟩, ⟨by refine pe ?_; refine blk_put (cs := #[.int .i64 t781, .int .i64 0]) ?_ 1 _ rfl; refine pe ?_; refine blk_put (cs := #[.int .i64 0, .int .i64 0]) ?_ 0 _ rfl; refine pe ?_; exact BK784.out⟩, ⟨bw HB⟩⟩
 case round =>
  clear H'; (try clear c1); (try clear c2); (try clear p2); (try clear p6); (try clear c12); (try clear c15); (try clear c20); (try clear c21); (try clear c22); (try clear hcz12_0); (try clear hcz12_1); (try clear hcz16_0); (try clear hcz16_1); (try clear hcz17_0); (try clear hcz17_1); (try clear hcz22_0); (try clear hcz22_1); (try clear hfz12_0); (try clear hfz12_1); (try clear hfz16_0); (try clear hfz16_1); (try clear hfz17_0); (try clear hfz17_1); (try clear hfz22_0); (try clear hfz22_1); obtain ⟨x13_1, x14_1, rfl, HA, HK1, HO_13, BK776, BK780, BK784, HB⟩ := hrel
  cases gk with
  | zero => exact absurd HA.out (by simp [awardingbodylaw01_RatioSumsLong.l0])
  | succ k1 =>
   have H := HA.out; clear HA; simp only [awardingbodylaw01_RatioSumsLong.l0] at H
   by_cases c23 : x14_1 < t770
   ·rw [if_pos c23] at H; have c23b0 : decide (x14_1 < t770) = true := decide_eq_true c23; clear c23
    by_cases c24 : x13_1.length < 8796093022208
    ·rw [if_pos c24] at H; have LMc24 := Aside0.mk c24; clear c24; obtain ⟨y785, hy785⟩ : ∃ y_ : List (S35), y_ = (x13_1 ++ [(⟨t773, t774⟩ : S35)]) := ⟨_, rfl⟩; (replace H : (awardingbodylaw01_RatioSumsLong.l0 k1 t770 t775 t779 t783 y785 (wrap64 (x14_1 + 1)) t773 t774 t781 t782) = some r := by first | (rw [hy785]; with_reducible exact H) | (have H2_ := (Option.bind_some _ _).symm.trans H; rw [hy785]; with_reducible exact H2_) | (have H2_ := (Option.bind_some _ _).symm.trans H; with_reducible exact H2_) | with_reducible exact H | (rw [hy785]; exact H) | exact H); have Ny785 := Aside0.mk hy785; clear hy785; have H' := Aside0.mk H; clear H; obtain ⟨hnb25, hnc25⟩ := n2 NB776_780; obtain ⟨hnb26, hnc26⟩ := n2 NB776_784; have hcz27_0 : wr.cell? ⟨gb776, 0, none⟩ = some (.int .i64 t773) := bc BK776 0; have hcz27_1 : wr.cell? ⟨gb776, 1, none⟩ = some (.int .i64 t774) := bc BK776 1; have hfz27_0 := blk_frozen BK776.out 0; have hfz27_1 := blk_frozen BK776.out 1; go_wp2_with (first | ((with_reducible refine gate_builtin (b := .append) (xs := #[.tmp 45, .tmp 47]) rfl ?_); at_builtin; refine Kd.R_append k35 (w0 := w) w.heap.size rfl (.tmp 45) (.tmp 47) 46 35 (.agg #[(.int .i64 0), (.int .i64 0)]) 16 rfl Try.underlying46 info35 rfl (by decide) (by omega) u13 x13_1 (⟨t773, t774⟩ : S35) [.int .i64 t773, .int .i64 t774] (fun k_ => k_ ≠ gb776 ∧ k_ ≠ gb780 ∧ k_ ≠ gb784) (fun _ => False) rfl rfl ?aP (fun _ hk => hk.elim) ?aF ?aO ?aB ?aS ?aL ?_; (case aP => exact k35_mkM _ _ _ (⟨t773, t774⟩ : S35)); (case aB => exact (bw HB)); (case aF => exact (fun k_ hk => ⟨Kd.freshB (g := gb776) (o := .cells #[.int .i64 t773, .int .i64 t774] 35 (0, 0)) (bq BK776) k_ hk, Kd.freshB (g := gb780) (o := .cells #[.int .i64 t777, .int .i64 t778] 35 (0, 0)) (bq BK780) k_ hk, Kd.freshB (g := gb784) (o := .cells #[.int .i64 t781, .int .i64 t782] 35 (0, 0)) (bq BK784) k_ hk⟩)); (case aO => exact (by (with_reducible repeat (first | apply Kd.R_alloc | apply Kd.R_drewN | apply Kd.R_drew)); exact HO_13.out)); (case aS => exact (below_size (bw HB))); (case aL => have := LMc24.out; omega); intro v786 w28 ho hb hg hat; rw [← Ny785.out] at ho; have HO787 := Aside0.mk (ho); replace BK776 := Aside0.mk (blk_grown (g := gb776) (o := .cells #[.int .i64 t773, .int .i64 t774] 35 (0, 0)) (bq BK776) hg (Kd.R_away HO_13.out (fun _ hk => hk.1))); replace BK780 := Aside0.mk (blk_grown (g := gb780) (o := .cells #[.int .i64 t777, .int .i64 t778] 35 (0, 0)) (bq BK780) hg (Kd.R_away HO_13.out (fun _ hk => hk.2.1))); replace BK784 := Aside0.mk (blk_grown (g := gb784) (o := .cells #[.int .i64 t781, .int .i64 t782] 35 (0, 0)) (bq BK784) hg (Kd.R_away HO_13.out (fun _ hk => hk.2.2))); replace HB := Aside0.mk (hb); clear HO_13; clear ho hb hg hat))
     go_roundg k1
     case measure => have := HK1.out; omega
     case rel => exact ⟨(y785), (wrap64 (x14_1 + 1)), (by first | rfl | (simp; done) | (simp [*]; done)), H', ⟨by have := HK1.out; omega⟩, ⟨by (with_reducible repeat (first | apply Kd.R_alloc | apply Kd.R_drewN | apply Kd.R_drew)); exact HO787.out⟩, ⟨bq BK776⟩, ⟨bq BK780⟩, ⟨bq BK784⟩, ⟨bw HB⟩⟩
    ·rw [if_neg c24] at H; exact absurd H (by simp)
   ·rw [if_neg c23] at H; have c23b0 : decide (x14_1 < t770) = false := decide_eq_false c23; clear c23; replace H := Option.bind_eq_some_iff.mp H; obtain ⟨⟨t788, t789, t790⟩, A290, H⟩ := H; (try dsimp only at H); have A29 := Aside0.mk A290; clear A290; have HC30 := Aside0.mk H; clear H; obtain ⟨Ao31, co31, eo31⟩ := Kd.R_slice HO_13.out; subst eo31
    go_upto_if 55 with (first | ((with_reducible refine gate_callee (f := 36) rfl ?_); refine gl (some 51) Try.func36 #[.slice Ao31 x13_1.length co31] ?_; (with_reducible refine (ratio_Sum.calls k1 _ _ x13_1 t788 t789 t790 _ ?side1 ?side2 A29.out).mono ?_); (case side1 => repeat (first | exact (Kd.R_reads' HO_13.out).2.2 | (with_reducible refine Kd.C_alloc ?_ _) | (with_reducible refine Kd.C_drewN ?_ _) | (with_reducible refine Kd.C_drew ?_))); (case side2 => exact (Kd.R_reads' HO_13.out).2.1); rintro e w32 ⟨rfl, hb⟩; refine ⟨_, rfl, ?_⟩; replace HO_13 := Aside0.mk (Kd.R_below (by (with_reducible repeat (first | apply Kd.R_alloc | apply Kd.R_drewN | apply Kd.R_drew)); exact HO_13.out) hb); replace BK776 := kb BK776 hb; replace BK780 := kb BK780 hb; replace BK784 := kb BK784 hb; replace HB := wb HB hb; (try clear hb); (try clear hb2); (try clear hk); (try clear hi)) | ((with_reducible refine gate_dst (N := 15) rfl ?_); refine bx (N := 15) (cs := #[.int .i64 0, .int .i64 0]) (t := 35) ?_; intro gb791 hg w33 hbox hb; have BK791 := Aside0.mk (hbox); have GW791 := gs HB hg; have GE791 := gs HB hg; have NB776_791 := nl BK776 hg; have NB791_776 := nr BK776 hg; have NB780_791 := nl BK780 hg; have NB791_780 := nr BK780 hg; have NB784_791 := nl BK784 hg; have NB791_784 := nr BK784 hg; replace HO_13 := Aside0.mk (Kd.R_below (Kd.R_elderB (by (with_reducible repeat (first | apply Kd.R_alloc | apply Kd.R_drewN | apply Kd.R_drew)); exact HO_13.out) gb791 (Nat.le_of_eq hg.symm)) hb); replace BK776 := kb BK776 hb; replace BK780 := kb BK780 hb; replace BK784 := kb BK784 hb; replace HB := wb HB hb; clear hb hbox hg; obtain ⟨hnb34, hnc34⟩ := n2 NB791_776; obtain ⟨hnb35, hnc35⟩ := n2 NB791_780; obtain ⟨hnb36, hnc36⟩ := n2 NB791_784; have hcz37_0 : w33.cell? ⟨gb791, 0, none⟩ = some (.int .i64 0) := bc BK791 0; have hcz37_1 : w33.cell? ⟨gb791, 1, none⟩ = some (.int .i64 0) := bc BK791 1; have hfz37_0 := blk_frozen BK791.out 0; have hfz37_1 := blk_frozen BK791.out 1))
    (try simp only [Act.put, List.setIfInBounds_toArray, List.set_cons_zero, List.set_cons_succ]); have H := HC30.out; clear HC30
    by_cases c38 : t770 > 100
    ·rw [if_pos c38] at H; have c38b0 : decide (100 < t770) = true := decide_eq_true c38; clear c38
     (first | rw [c38b0] | (simp only [i64_w, i32_w]; rw [c38b0]) | skip)
     by_cases c39 : (t788 == 0 && (t789 == 0)) = true
     ·rw [if_pos c39] at H; have c39b0 : (t788 == 0 && (t789 == 0)) = true := c39; (try (have c39b1 : decide (t788 = 0 && (t789 == 0)) = true := by simpa using c39)); (try (have c39b2 : (t788 == 0 && (t789 == 0)) = true := by simpa using c39)); clear c39
      by_cases c40 : t790 = 3
      ·rw [if_pos c40] at H; have c40b0 : (t790 == 3) = true := beq_iff_eq.mpr c40; have c40b1 : (t790 != 3) = false := bne_eq_false_iff_eq.mpr c40; clear c40; replace H := Option.bind_eq_some_iff.mp H; obtain ⟨t792, A410, H⟩ := H; (try dsimp only at H); have A41 := Aside0.mk A410; clear A410; obtain rfl := Option.some.inj H; obtain ⟨hnb42, hnc42⟩ := n2 NB791_776; obtain ⟨hnb43, hnc43⟩ := n2 NB791_780; obtain ⟨hnb44, hnc44⟩ := n2 NB791_784; have hcz45_0 : w33.cell? ⟨gb791, 0, none⟩ = some (.int .i64 0) := bc BK791 0; have hcz45_1 : w33.cell? ⟨gb791, 1, none⟩ = some (.int .i64 0) := bc BK791 1; have hfz45_0 := blk_frozen BK791.out 0; have hfz45_1 := blk_frozen BK791.out 1; (go_wp2_with (first | (go_at_call 18; (with_reducible refine (awardingbodylaw01_awake.calls k1  t792 _ A41.out).mono ?_); rintro e w46 ⟨rfl, hb⟩; replace HO_13 := Aside0.mk (Kd.R_below (by (with_reducible repeat (first | apply Kd.R_alloc | apply Kd.R_drewN | apply Kd.R_drew)); exact (Kd.R_mono (Kd.R_far (p := ⟨gb791, 1, none⟩) (Kd.R_far (p := ⟨gb791, 0, none⟩) (Kd.R_mono HO_13.out (fun k_ hk => (⟨hk, hk.2⟩ : _ ∧ k_ ≠ gb791))) (fun _ hk => hk.2) (.int .i64 t788)) (fun _ hk => hk.2) (.int .i64 t789)) (fun _ h_ => h_.1))) hb); replace BK776 := kb BK776 hb; replace BK780 := kb BK780 hb; replace BK784 := kb BK784 hb; replace BK791 := Aside0.mk (blk_below (g := gb791) (o := .cells #[.int .i64 t788, .int .i64 t789] 35 (0, 0)) (by refine pe ?_; refine blk_put (cs := #[.int .i64 t788, .int .i64 0]) ?_ 1 _ rfl; refine pe ?_; refine blk_put (cs := #[.int .i64 0, .int .i64 0]) ?_ 0 _ rfl; refine pe ?_; exact BK791.out) hb); replace HB := wb HB hb; (try clear hb); (try clear hb2); (try clear hk); (try clear hi)))); (go_ret); exact ⟨by first | rfl | (simp [errW_none, errW_some] <;> rfl) | (simp [*, errW_none, errW_some] <;> rfl), bw HB⟩
      ·rw [if_neg c40] at H; have c40b0 : (t790 == 3) = false := beq_eq_false_iff_ne.mpr c40; have c40b1 : (t790 != 3) = true := bne_iff_ne.mpr c40; obtain rfl := Option.some.inj H; obtain ⟨hnb47, hnc47⟩ := n2 NB791_776; obtain ⟨hnb48, hnc48⟩ := n2 NB791_780; obtain ⟨hnb49, hnc49⟩ := n2 NB791_784; have hcz50_0 : w33.cell? ⟨gb791, 0, none⟩ = some (.int .i64 0) := bc BK791 0; have hcz50_1 : w33.cell? ⟨gb791, 1, none⟩ = some (.int .i64 0) := bc BK791 1; have hfz50_0 := blk_frozen BK791.out 0; have hfz50_1 := blk_frozen BK791.out 1; (go_wp2); (go_ret); exact ⟨by first | rfl | (simp [errW_none, errW_some] <;> rfl) | (simp [*, errW_none, errW_some] <;> rfl), bw HB⟩
     ·rw [if_neg c39] at H; (have c39b0 : (t788 == 0 && (t789 == 0)) = false := by simpa using c39); (try (have c39b1 : decide (t788 = 0 && (t789 == 0)) = false := by simpa using c39)); (try (have c39b2 : (t788 == 0 && (t789 == 0)) = false := by simpa using c39)); (try (have c39b3 : ¬ (t788 = 0 && (t789 == 0)) := by simpa using c39)); clear c39; obtain rfl := Option.some.inj H; obtain ⟨hnb51, hnc51⟩ := n2 NB791_776; obtain ⟨hnb52, hnc52⟩ := n2 NB791_780; obtain ⟨hnb53, hnc53⟩ := n2 NB791_784; have hcz54_0 : w33.cell? ⟨gb791, 0, none⟩ = some (.int .i64 0) := bc BK791 0; have hcz54_1 : w33.cell? ⟨gb791, 1, none⟩ = some (.int .i64 0) := bc BK791 1; have hfz54_0 := blk_frozen BK791.out 0; have hfz54_1 := blk_frozen BK791.out 1; (go_wp2); (go_ret); exact ⟨by first | rfl | (simp [errW_none, errW_some] <;> rfl) | (simp [*, errW_none, errW_some] <;> rfl), bw HB⟩
    ·rw [if_neg c38] at H; have c38b0 : decide (100 < t770) = false := decide_eq_false c38; clear c38
     (first | rw [c38b0] | (simp only [i64_w, i32_w]; rw [c38b0]) | skip)
     by_cases c55 : t775 = 0
     ·rw [if_pos c55] at H; have c55b0 : (t775 == 0) = true := beq_iff_eq.mpr c55; have c55b1 : (t775 != 0) = false := bne_eq_false_iff_eq.mpr c55; clear c55
      by_cases c56 : t779 = 0
      ·rw [if_pos c56] at H; have c56b0 : (t779 == 0) = true := beq_iff_eq.mpr c56; have c56b1 : (t779 != 0) = false := bne_eq_false_iff_eq.mpr c56; clear c56
       by_cases c57 : t783 = 0
       ·rw [if_pos c57] at H; have c57b0 : (t783 == 0) = true := beq_iff_eq.mpr c57; have c57b1 : (t783 != 0) = false := bne_eq_false_iff_eq.mpr c57; clear c57
        by_cases c58 : t790 = 0
        ·rw [if_pos c58] at H; have c58b0 : (t790 == 0) = true := beq_iff_eq.mpr c58; have c58b1 : (t790 != 0) = false := bne_eq_false_iff_eq.mpr c58; clear c58
         by_cases c59 : (t788 == t781 && (t789 == t782)) = true
         ·rw [if_pos c59] at H; have c59b0 : (t788 == t781 && (t789 == t782)) = true := c59; (try (have c59b1 : decide (t788 = t781 && (t789 == t782)) = true := by simpa using c59)); (try (have c59b2 : (t788 == t781 && (t789 == t782)) = true := by simpa using c59)); clear c59; replace H := Option.bind_eq_some_iff.mp H; obtain ⟨t793, A600, H⟩ := H; (try dsimp only at H); have A60 := Aside0.mk A600; clear A600; obtain rfl := Option.some.inj H; obtain ⟨hnb61, hnc61⟩ := n2 NB791_776; obtain ⟨hnb62, hnc62⟩ := n2 NB791_780; obtain ⟨hnb63, hnc63⟩ := n2 NB791_784; have hcz64_0 : w33.cell? ⟨gb791, 0, none⟩ = some (.int .i64 0) := bc BK791 0; have hcz64_1 : w33.cell? ⟨gb791, 1, none⟩ = some (.int .i64 0) := bc BK791 1; have hfz64_0 := blk_frozen BK791.out 0; have hfz64_1 := blk_frozen BK791.out 1; obtain ⟨hnb65, hnc65⟩ := n2 NB784_776; obtain ⟨hnb66, hnc66⟩ := n2 NB784_780; have hcz67_0 : w33.cell? ⟨gb784, 0, none⟩ = some (.int .i64 t781) := bc BK784 0; have hcz67_1 : w33.cell? ⟨gb784, 1, none⟩ = some (.int .i64 t782) := bc BK784 1; have hfz67_0 := blk_frozen BK784.out 0; have hfz67_1 := blk_frozen BK784.out 1; (go_wp2_with (first | (go_at_call 18; (with_reducible refine (awardingbodylaw01_awake.calls k1  t793 _ A60.out).mono ?_); rintro e w68 ⟨rfl, hb⟩; replace HO_13 := Aside0.mk (Kd.R_below (by (with_reducible repeat (first | apply Kd.R_alloc | apply Kd.R_drewN | apply Kd.R_drew)); exact (Kd.R_mono (Kd.R_far (p := ⟨gb791, 1, none⟩) (Kd.R_far (p := ⟨gb791, 0, none⟩) (Kd.R_mono HO_13.out (fun k_ hk => (⟨hk, hk.2⟩ : _ ∧ k_ ≠ gb791))) (fun _ hk => hk.2) (.int .i64 t788)) (fun _ hk => hk.2) (.int .i64 t789)) (fun _ h_ => h_.1))) hb); replace BK776 := kb BK776 hb; replace BK780 := kb BK780 hb; replace BK784 := kb BK784 hb; replace BK791 := Aside0.mk (blk_below (g := gb791) (o := .cells #[.int .i64 t788, .int .i64 t789] 35 (0, 0)) (by refine pe ?_; refine blk_put (cs := #[.int .i64 t788, .int .i64 0]) ?_ 1 _ rfl; refine pe ?_; refine blk_put (cs := #[.int .i64 0, .int .i64 0]) ?_ 0 _ rfl; refine pe ?_; exact BK791.out) hb); replace HB := wb HB hb; (try clear hb); (try clear hb2); (try clear hk); (try clear hi)))); (go_ret); exact ⟨by first | rfl | (simp [errW_none, errW_some] <;> rfl) | (simp [*, errW_none, errW_some] <;> rfl), bw HB⟩
         ·rw [if_neg c59] at H; (have c59b0 : (t788 == t781 && (t789 == t782)) = false := by simpa using c59); (try (have c59b1 : decide (t788 = t781 && (t789 == t782)) = false := by simpa using c59)); (try (have c59b2 : (t788 == t781 && (t789 == t782)) = false := by simpa using c59)); (try (have c59b3 : ¬ (t788 = t781 && (t789 == t782)) := by simpa using c59)); clear c59; obtain rfl := Option.some.inj H; obtain ⟨hnb69, hnc69⟩ := n2 NB791_776; obtain ⟨hnb70, hnc70⟩ := n2 NB791_780; obtain ⟨hnb71, hnc71⟩ := n2 NB791_784; have hcz72_0 : w33.cell? ⟨gb791, 0, none⟩ = some (.int .i64 0) := bc BK791 0; have hcz72_1 : w33.cell? ⟨gb791, 1, none⟩ = some (.int .i64 0) := bc BK791 1; have hfz72_0 := blk_frozen BK791.out 0; have hfz72_1 := blk_frozen BK791.out 1; obtain ⟨hnb73, hnc73⟩ := n2 NB784_776; obtain ⟨hnb74, hnc74⟩ := n2 NB784_780; have hcz75_0 : w33.cell? ⟨gb784, 0, none⟩ = some (.int .i64 t781) := bc BK784 0; have hcz75_1 : w33.cell? ⟨gb784, 1, none⟩ = some (.int .i64 t782) := bc BK784 1; have hfz75_0 := blk_frozen BK784.out 0; have hfz75_1 := blk_frozen BK784.out 1; (go_wp2); (go_ret); exact ⟨by first | rfl | (simp [errW_none, errW_some] <;> rfl) | (simp [*, errW_none, errW_some] <;> rfl), bw HB⟩
        ·rw [if_neg c58] at H; have c58b0 : (t790 == 0) = false := beq_eq_false_iff_ne.mpr c58; have c58b1 : (t790 != 0) = true := bne_iff_ne.mpr c58; obtain rfl := Option.some.inj H; (go_wp2); (go_ret); exact ⟨by first | rfl | (simp [errW_none, errW_some] <;> rfl) | (simp [*, errW_none, errW_some] <;> rfl), bw HB⟩
       ·rw [if_neg c57] at H; have c57b0 : (t783 == 0) = false := beq_eq_false_iff_ne.mpr c57; have c57b1 : (t783 != 0) = true := bne_iff_ne.mpr c57; obtain rfl := Option.some.inj H; (go_wp2); (go_ret); exact ⟨by first | rfl | (simp [errW_none, errW_some] <;> rfl) | (simp [*, errW_none, errW_some] <;> rfl), bw HB⟩
      ·rw [if_neg c56] at H; have c56b0 : (t779 == 0) = false := beq_eq_false_iff_ne.mpr c56; have c56b1 : (t779 != 0) = true := bne_iff_ne.mpr c56; obtain rfl := Option.some.inj H; (go_wp2); (go_ret); exact ⟨by first | rfl | (simp [errW_none, errW_some] <;> rfl) | (simp [*, errW_none, errW_some] <;> rfl), bw HB⟩
     ·rw [if_neg c55] at H; have c55b0 : (t775 == 0) = false := beq_eq_false_iff_ne.mpr c55; have c55b1 : (t775 != 0) = true := bne_iff_ne.mpr c55; obtain rfl := Option.some.inj H; (go_wp2); (go_ret); exact ⟨by first | rfl | (simp [errW_none, errW_some] <;> rfl) | (simp [*, errW_none, errW_some] <;> rfl), bw HB⟩

/-- THE ONE PURE STATEMENT of awardingbodylaw01_RatioSumsLong: yours. -/
def awardingbodylaw01_RatioSumsLong.Pure : Prop := ∀ (a0 : Int) (a1 : Int) (a2 : Int), (Lit.int .i64 a0).wf = true → (Lit.int .i64 a1).wf = true → (Lit.int .i64 a2).wf = true → ∃ k, awardingbodylaw01_RatioSumsLong.f k a0 a1 a2 = some true
theorem awardingbodylaw01_RatioSumsLong.walk (P : awardingbodylaw01_RatioSumsLong.Pure) (a0 : Int) (a1 : Int) (a2 : Int) (w : World) (w0 : (Lit.int .i64 a0).wf = true) (w1 : (Lit.int .i64 a1).wf = true) (w2 : (Lit.int .i64 a2).wf = true) :
  Calls Try.prog 12 #[.int .i64 a0, .int .i64 a1, .int .i64 a2] w fun e w' => e = .returned (.bool true) ∧ Below w.heap.size w w' := by
 obtain ⟨k, h⟩ := P a0 a1 a2 w0 w1 w2; refine (awardingbodylaw01_RatioSumsLong.calls k a0 a1 a2 true w h).mono ?_; rintro e w' ⟨rfl, hd⟩; exact ⟨rfl, hd⟩

end Go.Proofs.Ytcbohbeipgcfhaa.G

/- Plain arithmetic, proved for all natural numbers in the stated bounds: division of a number of two digits by schoolbook quotient digits (Knuth's step), and long division bit by bit. -/
namespace Go.Proofs.Ytcbohbeipgcfhaa.Mth

/-- What the loop of a quotient digit keeps: u = q v1 + r, q not below the true digit, q small. -/
structure Kn (v1 v0 u d q r : Nat) : Prop where
  e : u = q * v1 + r
  ge : (u * 4294967296 + d) / (v1 * 4294967296 + v0) ≤ q
  le : q ≤ 4294967296 + 1
  v1lo : 2147483648 ≤ v1
  v1hi : v1 < 4294967296
  v0hi : v0 < 4294967296
  uhi : u < v1 * 4294967296 + v0
  dhi : d < 4294967296

theorem Kn.start {v1 v0 u d : Nat} (v1lo : 2147483648 ≤ v1) (v1hi : v1 < 4294967296) (v0hi : v0 < 4294967296) (uhi : u < v1 * 4294967296 + v0) (dhi : d < 4294967296) :
    Kn v1 v0 u d (u / v1) (u % v1) := by
  refine ⟨?_, ?_, ?_, v1lo, v1hi, v0hi, uhi, dhi⟩
  · rw [Nat.mul_comm]; exact (Nat.div_add_mod u v1).symm
  · -- Q ≤ u / v1
    (have hv : 0 < v1 := by omega); rw [Nat.le_div_iff_mul_le hv]; have h1 : (u * 4294967296 + d) / (v1 * 4294967296 + v0) * (v1 * 4294967296 + v0) ≤ u * 4294967296 + d := Nat.div_mul_le_self _ _; (generalize (u * 4294967296 + d) / (v1 * 4294967296 + v0) = Q at *); (have h2 : Q * (v1 * 4294967296 + v0) = Q * v1 * 4294967296 + Q * v0 := by rw [Nat.mul_add, Nat.mul_assoc]); rw [h2] at h1
    have : Q * v1 * 4294967296 < (u + 1) * 4294967296 := by
      have : (u + 1) * 4294967296 = u * 4294967296 + 4294967296 := Nat.succ_mul _ _; omega
    have := Nat.lt_of_mul_lt_mul_right this; omega
  · have hv : 0 < v1 := by omega
    have : u / v1 < 4294967296 + 2 := by
      rw [Nat.div_lt_iff_lt_mul hv]; (have : (4294967296 + 2) * v1 = v1 * 4294967296 + 2 * v1 := by rw [Nat.add_mul, Nat.mul_comm]); omega
    omega

theorem Kn.q_lt {v1 v0 u d q r : Nat} (h : Kn v1 v0 u d q r) : (u * 4294967296 + d) / (v1 * 4294967296 + v0) < 4294967296 := by
  (have hv : 0 < v1 * 4294967296 + v0 := by have := h.uhi; omega); rw [Nat.div_lt_iff_lt_mul hv]; have h1 : (u + 1) * 4294967296 ≤ (v1 * 4294967296 + v0) * 4294967296 := Nat.mul_le_mul_right _ h.uhi; have h2 : (u + 1) * 4294967296 = u * 4294967296 + 4294967296 := Nat.succ_mul _ _; have := h.dhi; omega

theorem Kn.qv {v1 v0 u d q r : Nat} (h : Kn v1 v0 u d q r) : q * (v1 * 4294967296 + v0) = u * 4294967296 - r * 4294967296 + q * v0 ∧ r * 4294967296 ≤ u * 4294967296 := by
  (have h2 : q * (v1 * 4294967296 + v0) = q * v1 * 4294967296 + q * v0 := by rw [Nat.mul_add, Nat.mul_assoc]); (have h3 : u * 4294967296 = q * v1 * 4294967296 + r * 4294967296 := by rw [h.e, Nat.add_mul]); omega

/-- the digit is too great -/
theorem Kn.next {v1 v0 u d q r : Nat} (h : Kn v1 v0 u d q r) (ht : 4294967296 ≤ q ∨ 4294967296 * r + d < q * v0) : 1 ≤ q ∧ Kn v1 v0 u d (q - 1) (r + v1) := by
  have hlt : (u * 4294967296 + d) / (v1 * 4294967296 + v0) < q := by
    rcases ht with ht | ht
    · exact Nat.lt_of_lt_of_le h.q_lt ht
    · have hv : 0 < v1 * 4294967296 + v0 := by have := h.uhi; omega
      rw [Nat.div_lt_iff_lt_mul hv]; have := h.qv; omega
  have hq : 1 ≤ q := Nat.lt_of_le_of_lt (Nat.zero_le _) hlt; refine ⟨hq, ?_, by omega, by have := h.le; omega, h.v1lo, h.v1hi, h.v0hi, h.uhi, h.dhi⟩; have := h.e; obtain ⟨q', rfl⟩ : ∃ q', q = q' + 1 := ⟨q - 1, by omega⟩; rw [Nat.add_sub_cancel]; rw [Nat.succ_mul] at this; omega

theorem Kn.done {v1 v0 u d q r : Nat} (h : Kn v1 v0 u d q r) (ht : q * v0 ≤ 4294967296 * r + d) : q = (u * 4294967296 + d) / (v1 * 4294967296 + v0) := by
  have hv : 0 < v1 * 4294967296 + v0 := by have := h.uhi; omega
  have : q ≤ (u * 4294967296 + d) / (v1 * 4294967296 + v0) := by
    rw [Nat.le_div_iff_mul_le hv]; have := h.qv; omega
  have := h.ge; omega

theorem Kn.qv0 {v1 v0 u d q r : Nat} (h : Kn v1 v0 u d q r) : q * v0 < 18446744073709551616 := by
  have h1 : q * v0 ≤ (4294967296 + 1) * (4294967296 - 1) := Nat.mul_le_mul h.le (by have := h.v0hi; omega); omega

theorem Kn.brk {v1 v0 u d q r : Nat} (h : Kn v1 v0 u d q r) (hr : 4294967296 ≤ r) : q * v0 ≤ 4294967296 * r + d := by
  have h1 : q * v0 ≤ (4294967296 + 1) * (4294967296 - 1) := Nat.mul_le_mul h.le (by have := h.v0hi; omega); have h2 : 4294967296 * 4294967296 ≤ 4294967296 * r := Nat.mul_le_mul_left _ hr; omega

theorem digits_two' (B : Nat) {V u d1 d0 q1 m : Nat} (hV : 0 < V) (e : V * q1 + m = u * B + d1) :
    (u * (B * B) + (d1 * B + d0)) / V = q1 * B + (m * B + d0) / V ∧ (u * (B * B) + (d1 * B + d0)) % V = (m * B + d0) % V := by
  have e2 : u * (B * B) + (d1 * B + d0) = V * (q1 * B) + (m * B + d0) := by
    (have : (V * q1 + m) * B = (u * B + d1) * B := by rw [e]); rw [Nat.add_mul, Nat.add_mul, Nat.mul_assoc, Nat.mul_assoc] at this; omega
  refine ⟨?_, ?_⟩
  · rw [e2, Nat.mul_add_div hV]
  · rw [e2, Nat.mul_add_mod]
/-- The two digits together. -/
theorem digits_two {V u d1 d0 q1 m : Nat} (hV : 0 < V) (e : V * q1 + m = u * 4294967296 + d1) :
    (u * 18446744073709551616 + (d1 * 4294967296 + d0)) / V = q1 * 4294967296 + (m * 4294967296 + d0) / V ∧ (u * 18446744073709551616 + (d1 * 4294967296 + d0)) % V = (m * 4294967296 + d0) % V :=
  digits_two' 4294967296 hV e

/-- Scaling by s. -/
theorem unscale {N y s q r : Nat} (hq : q = (N * 2 ^ s) / (y * 2 ^ s)) (hr : r = (N * 2 ^ s) % (y * 2 ^ s)) : q = N / y ∧ r / 2 ^ s = N % y := by
  have hs : 0 < 2 ^ s := Nat.pow_pos (by decide); rw [Nat.mul_div_mul_right _ _ hs] at hq; rw [Nat.mul_mod_mul_right] at hr; rw [hr, Nat.mul_div_cancel _ hs]; exact ⟨hq, rfl⟩
end Go.Proofs.Ytcbohbeipgcfhaa.Mth

/- math/bits.Div64 and Rem64 as the printed functions compute them: quotient and remainder of a number of 128 bits, for a divisor greater than the upper half (Div64) and for each divisor that is not 0 (Rem64). -/
namespace Go.Proofs.Ytcbohbeipgcfhaa.Mth
open Go.RowKit Go.Proofs.Ytcbohbeipgcfhaa.G Go.Proofs.Ytcbohbeipgcfhaa.Given Go.Proofs.YtcbohbeipgcfhaaW.PrintWords Go.Proofs.YtcbohbeipgcfhaaW.PrintLast Go.Proofs.YtcbohbeipgcfhaaW.PrintMore
set_option linter.unusedVariables false

theorem wu (n : Int) : IntKind.u64.wrap n = n % 18446744073709551616 := IntKind.wrap_u64 n
theorem evk {α : Type} {g : Nat → Option α} {f : Nat → Option α} {r : α} (h : ∀ k, g (k + 1) = f k) (k : Ev f r) : Ev g r := Ev.step h k
theorem ev_some {α : Type} {g : Nat → Option α} {r : α} (h : ∀ k, g (k + 1) = some r) : Ev g r := Ev.step h (Ev.now r)

/-- What the second digit's loop ends in. -/
theorem fin_val {V s v1 v0 d q1 r u q : Nat} (hV : V = v1 * 4294967296 + v0) (hK : Kn v1 v0 u d q r) (hq1 : q1 < 4294967296) (hs : s ≤ 64) (hq : q = (u * 4294967296 + d) / V) :
    (some (IntKind.u64.wrap ((IntKind.u64.wrap ((q1 : Int) * 4294967296)) + (q : Int)), shr .u64 (IntKind.u64.wrap ((IntKind.u64.wrap ((IntKind.u64.wrap ((u : Int) * 4294967296)) + (d : Int))) - (IntKind.u64.wrap ((q : Int) * (V : Int))))) (s : Int)) : Option (Int × Int))
      = some (((q1 * 4294967296 + q : Nat) : Int), (((u * 4294967296 + d) % V / 2 ^ s : Nat) : Int)) := by
  have hlt := hK.q_lt; rw [← hV, ← hq] at hlt; (have hVp : 0 < V := by have := hK.uhi; omega); have hm : (u * 4294967296 + d) % V < V := Nat.mod_lt _ hVp; have he := Nat.div_add_mod (u * 4294967296 + d) V; rw [← hq] at he; have hc := Nat.mul_comm V q; have hv1 := hK.v1hi; have hv0 := hK.v0hi
  have e1 : IntKind.u64.wrap ((IntKind.u64.wrap ((q1 : Int) * 4294967296)) + (q : Int)) = ((q1 * 4294967296 + q : Nat) : Int) := by
    simp only [wu]; omega
  have e2 : IntKind.u64.wrap ((IntKind.u64.wrap ((IntKind.u64.wrap ((u : Int) * 4294967296)) + (d : Int))) - (IntKind.u64.wrap ((q : Int) * (V : Int)))) = (((u * 4294967296 + d) % V : Nat) : Int) := by
    have e3 : (q : Int) * (V : Int) = ((q * V : Nat) : Int) := (Int.natCast_mul q V).symm; rw [e3]; (generalize (u * 4294967296 + d) % V = m at *); (generalize q * V = P at *); simp only [wu]; omega
  rw [e1, e2]; unfold shr; rw [show min (s : Int).toNat IntKind.u64.bits = s from by simp [IntKind.bits]; omega]; rfl

theorem l1_ev {V s v1 v0 d q1 u : Nat} (hV : V = v1 * 4294967296 + v0) (hq1 : q1 < 4294967296) (hs : s ≤ 64) : ∀ q r, Kn v1 v0 u d q r → r < 4294967296 →
    Ev (fun k => bits_Div64.l1 k V s v1 v0 d q1 r u q) (((q1 * 4294967296 + (u * 4294967296 + d) / V : Nat) : Int), (((u * 4294967296 + d) % V / 2 ^ s : Nat) : Int)) := by
  intro q
  induction q with
  | zero =>
    intro r hK hr; (have hd : 0 = (u * 4294967296 + d) / V := by rw [hV]; exact hK.done (by omega)); refine Ev.step (f := fun k => bits_Div64.j4 k V s v1 v0 d q1 r u (0 : Nat) false) (fun k => ?_) (ev_some (fun k => ?_))
    · simp only [bits_Div64.l1]
      rw [if_neg (by omega)]
      congr 1
      have := hK.dhi; simp only [wu, decide_eq_false_iff_not]; omega
    · simp only [bits_Div64.j4]
      rw [if_neg (by decide), if_pos (by omega)]; have := fin_val (s := s) hV hK hq1 hs hd; rw [← hd]; exact this
  | succ q ih =>
    intro r hK hr; have hv0 := hK.v0hi; have hd' := hK.dhi; have hP := hK.qv0; have hle := hK.le
    by_cases ht : 4294967296 ≤ q + 1 ∨ 4294967296 * r + d < (q + 1) * v0
    · have hj : ∀ k, bits_Div64.l1 (k + 1) V s v1 v0 d q1 r u (q + 1 : Nat) = bits_Div64.j4 k V s v1 v0 d q1 r u (q + 1 : Nat) true := by
        intro k; simp only [bits_Div64.l1]
        by_cases h1 : 4294967296 ≤ q + 1
        · rw [if_pos (by omega)]
        · rw [if_neg (by omega)]
          congr 1
          (have ht2 : 4294967296 * r + d < (q + 1) * v0 := by rcases ht with h | h; exact absurd h h1; exact h); rw [show ((q + 1 : Nat) : Int) * (v0 : Int) = (((q + 1) * v0 : Nat) : Int) from (Int.natCast_mul _ _).symm]; (generalize (q + 1) * v0 = P at *); simp only [wu, decide_eq_true_eq]; omega
      obtain ⟨_, hK'⟩ := hK.next ht; rw [Nat.add_sub_cancel] at hK'; have hv1 := hK.v1hi
      by_cases hb : 4294967296 ≤ r + v1
      · have hd := hK'.done (hK'.brk hb)
        rw [← hV] at hd; refine Ev.step hj (ev_some (fun k => ?_)); simp only [bits_Div64.j4]; rw [if_pos trivial, if_pos (by simp only [wu]; omega), if_pos (by omega)]; have := fin_val (s := s) hV hK' hq1 hs hd; rw [show IntKind.u64.wrap (((q + 1 : Nat) : Int) - 1) = (q : Int) from by simp only [wu]; omega]; rw [← hd]; exact this
      · refine Ev.step hj (Ev.step (fun k => ?_) (ih (r + v1) hK' (by omega)))
        simp only [bits_Div64.j4]; rw [if_pos trivial, if_neg (by simp only [wu]; omega)]; rw [show IntKind.u64.wrap (((q + 1 : Nat) : Int) - 1) = (q : Int) from by simp only [wu]; omega]; rw [show IntKind.u64.wrap ((r : Int) + (v1 : Int)) = ((r + v1 : Nat) : Int) from by simp only [wu]; omega]
    · have hn : (q + 1) * v0 ≤ 4294967296 * r + d := by omega
      have hd := hK.done hn; rw [← hV] at hd; refine Ev.step (f := fun k => bits_Div64.j4 k V s v1 v0 d q1 r u (q + 1 : Nat) false) (fun k => ?_) (ev_some (fun k => ?_))
      · simp only [bits_Div64.l1]
        rw [if_neg (by omega)]
        congr 1
        rw [show ((q + 1 : Nat) : Int) * (v0 : Int) = (((q + 1) * v0 : Nat) : Int) from (Int.natCast_mul _ _).symm]; (generalize (q + 1) * v0 = P at *); simp only [wu, decide_eq_false_iff_not]; omega
      · simp only [bits_Div64.j4]
        rw [if_neg (by decide), if_pos (by omega)]; have := fin_val (s := s) hV hK hq1 hs hd; rw [← hd]; exact this

theorem j2_ev' {V s v1 v0 d1 d0 q1 u m : Nat} (hV : V = v1 * 4294967296 + v0) (hs : s ≤ 64) (v1lo : 2147483648 ≤ v1) (v1hi : v1 < 4294967296) (v0hi : v0 < 4294967296) (d1hi : d1 < 4294967296) (d0hi : d0 < 4294967296) (uhi : u < V) (hq1 : q1 < 4294967296) (he : V * q1 + m = u * 4294967296 + d1) (hm : m < V) :
    Ev (fun k => bits_Div64.j2 k V s v1 v0 u d1 d0 q1) (((q1 * 4294967296 + (m * 4294967296 + d0) / V : Nat) : Int), (((m * 4294967296 + d0) % V / 2 ^ s : Nat) : Int)) := by
  have hVp : 0 < V := by omega
  have e2 : IntKind.u64.wrap ((IntKind.u64.wrap ((IntKind.u64.wrap ((u : Int) * 4294967296)) + (d1 : Int))) - (IntKind.u64.wrap ((q1 : Int) * (V : Int)))) = (m : Int) := by
    (have e3 : (q1 : Int) * (V : Int) = ((V * q1 : Nat) : Int) := by rw [Nat.mul_comm]; exact (Int.natCast_mul q1 V).symm); rw [e3]; obtain ⟨P, hP⟩ : ∃ P, V * q1 = P := ⟨_, rfl⟩; rw [hP] at he ⊢; simp only [wu]; omega
  have hK := Kn.start (u := m) (d := d0) v1lo v1hi v0hi (by omega) d0hi; have hmq : m / v1 ≤ 4294967297 := hK.le; refine Ev.step (fun k => ?_) (l1_ev hV hq1 hs _ _ hK (by have := Nat.mod_lt m (show 0 < v1 by omega); omega)); simp only [bits_Div64.j2]; rw [if_neg (by omega), e2]; have e4 : Int.tdiv (m : Int) (v1 : Int) = ((m / v1 : Nat) : Int) := rfl
  have e5 : IntKind.u64.wrap (((m / v1 : Nat) : Int)) = ((m / v1 : Nat) : Int) := by
    obtain ⟨Q, hQ⟩ : ∃ Q, m / v1 = Q := ⟨_, rfl⟩; rw [hQ] at hmq ⊢; simp only [wu]; omega
  rw [e4, e5]
  have e6 : IntKind.u64.wrap ((m : Int) - IntKind.u64.wrap (((m / v1 : Nat) : Int) * (v1 : Int))) = ((m % v1 : Nat) : Int) := by
    have h1 := Nat.div_add_mod m v1; (have h2 : ((m / v1 : Nat) : Int) * (v1 : Int) = ((v1 * (m / v1) : Nat) : Int) := by rw [Nat.mul_comm]; exact (Int.natCast_mul _ _).symm); rw [h2]; obtain ⟨P, hP⟩ : ∃ P, v1 * (m / v1) = P := ⟨_, rfl⟩; rw [hP] at h1 ⊢; simp only [wu]; omega
  rw [e6]

/-- The first digit's loop, and the second behind it. -/
theorem j2_ev {V s v1 v0 d1 d0 q1 u : Nat} (hV : V = v1 * 4294967296 + v0) (hs : s ≤ 64) (v1lo : 2147483648 ≤ v1) (v1hi : v1 < 4294967296) (v0hi : v0 < 4294967296) (d1hi : d1 < 4294967296) (d0hi : d0 < 4294967296) (uhi : u < V) (hq1 : q1 < 4294967296) (hd : q1 = (u * 4294967296 + d1) / V) :
    Ev (fun k => bits_Div64.j2 k V s v1 v0 u d1 d0 q1) (((u * 18446744073709551616 + (d1 * 4294967296 + d0)) / V : Nat), (((u * 18446744073709551616 + (d1 * 4294967296 + d0)) % V / 2 ^ s : Nat) : Int)) := by
  (have hVp : 0 < V := by omega); have he := Nat.div_add_mod (u * 4294967296 + d1) V; rw [← hd] at he; obtain ⟨a, b⟩ := digits_two (d0 := d0) hVp he; rw [a, b]; exact j2_ev' hV hs v1lo v1hi v0hi d1hi d0hi uhi hq1 he (Nat.mod_lt _ hVp)

theorem l0_ev {V s v1 v0 d1 d0 u : Nat} (hV : V = v1 * 4294967296 + v0) (hs : s ≤ 64) (v1lo : 2147483648 ≤ v1) (v1hi : v1 < 4294967296) (v0hi : v0 < 4294967296) (d1hi : d1 < 4294967296) (d0hi : d0 < 4294967296) (uhi : u < V) :
    ∀ q r, Kn v1 v0 u d1 q r → r < 4294967296 →
    Ev (fun k => bits_Div64.l0 k V s v1 v0 u d1 d0 q r) (((u * 18446744073709551616 + (d1 * 4294967296 + d0)) / V : Nat), (((u * 18446744073709551616 + (d1 * 4294967296 + d0)) % V / 2 ^ s : Nat) : Int)) := by
  have hend : ∀ q r, Kn v1 v0 u d1 q r → q = (u * 4294967296 + d1) / V → Ev (fun k => bits_Div64.j2 k V s v1 v0 u d1 d0 q) (((u * 18446744073709551616 + (d1 * 4294967296 + d0)) / V : Nat), (((u * 18446744073709551616 + (d1 * 4294967296 + d0)) % V / 2 ^ s : Nat) : Int)) := by
    intro q r hK hd; have hl := hK.q_lt; rw [← hV, ← hd] at hl; exact j2_ev hV hs v1lo v1hi v0hi d1hi d0hi uhi hl hd
  intro q
  induction q with
  | zero =>
    intro r hK hr; (have hd : 0 = (u * 4294967296 + d1) / V := by rw [hV]; exact hK.done (by omega)); refine Ev.step (f := fun k => bits_Div64.j1 k V s v1 v0 u d1 d0 (0 : Nat) r false) (fun k => ?_) (Ev.step (fun k => ?_) (hend 0 r hK hd))
    · simp only [bits_Div64.l0]
      rw [if_neg (by omega)]
      congr 1
      simp only [wu, decide_eq_false_iff_not]; omega
    · simp only [bits_Div64.j1]
      rw [if_neg (by decide)]
  | succ q ih =>
    intro r hK hr; have hP := hK.qv0; have hle := hK.le
    by_cases ht : 4294967296 ≤ q + 1 ∨ 4294967296 * r + d1 < (q + 1) * v0
    · have hj : ∀ k, bits_Div64.l0 (k + 1) V s v1 v0 u d1 d0 (q + 1 : Nat) r = bits_Div64.j1 k V s v1 v0 u d1 d0 (q + 1 : Nat) r true := by
        intro k; simp only [bits_Div64.l0]
        by_cases h1 : 4294967296 ≤ q + 1
        · rw [if_pos (by omega)]
        · rw [if_neg (by omega)]
          congr 1
          (have ht2 : 4294967296 * r + d1 < (q + 1) * v0 := by rcases ht with h | h; exact absurd h h1; exact h); rw [show ((q + 1 : Nat) : Int) * (v0 : Int) = (((q + 1) * v0 : Nat) : Int) from (Int.natCast_mul _ _).symm]; (generalize (q + 1) * v0 = P at *); simp only [wu, decide_eq_true_eq]; omega
      obtain ⟨_, hK'⟩ := hK.next ht; rw [Nat.add_sub_cancel] at hK'
      by_cases hb : 4294967296 ≤ r + v1
      · have hd := hK'.done (hK'.brk hb)
        rw [← hV] at hd; refine Ev.step hj (Ev.step (fun k => ?_) (hend q _ hK' hd)); simp only [bits_Div64.j1]; rw [if_pos trivial, if_pos (by simp only [wu]; omega)]; rw [show IntKind.u64.wrap (((q + 1 : Nat) : Int) - 1) = (q : Int) from by simp only [wu]; omega]
      · refine Ev.step hj (Ev.step (fun k => ?_) (ih (r + v1) hK' (by omega)))
        simp only [bits_Div64.j1]; rw [if_pos trivial, if_neg (by simp only [wu]; omega)]; rw [show IntKind.u64.wrap (((q + 1 : Nat) : Int) - 1) = (q : Int) from by simp only [wu]; omega]; rw [show IntKind.u64.wrap ((r : Int) + (v1 : Int)) = ((r + v1 : Nat) : Int) from by simp only [wu]; omega]
    · have hn : (q + 1) * v0 ≤ 4294967296 * r + d1 := by omega
      have hd := hK.done hn; rw [← hV] at hd; refine Ev.step (f := fun k => bits_Div64.j1 k V s v1 v0 u d1 d0 (q + 1 : Nat) r false) (fun k => ?_) (Ev.step (fun k => ?_) (hend (q + 1) r hK hd))
      · simp only [bits_Div64.l0]
        rw [if_neg (by omega)]
        congr 1
        rw [show ((q + 1 : Nat) : Int) * (v0 : Int) = (((q + 1) * v0 : Nat) : Int) from (Int.natCast_mul _ _).symm]; (generalize (q + 1) * v0 = P at *); simp only [wu, decide_eq_false_iff_not]; omega
      · simp only [bits_Div64.j1]
        rw [if_neg (by decide)]

theorem bitLen_two (y : Nat) (h0 : 0 < y) (h : y < 18446744073709551616) : 2 ^ (Lib.bitLen y - 1) ≤ y ∧ y < 2 ^ Lib.bitLen y ∧ 1 ≤ Lib.bitLen y ∧ Lib.bitLen y ≤ 64 := by
  have main : ∀ (f x : Nat), 0 < x → x < 2 ^ f → 2 ^ (Lib.bitLenAux f x - 1) ≤ x ∧ x < 2 ^ Lib.bitLenAux f x ∧ 1 ≤ Lib.bitLenAux f x ∧ Lib.bitLenAux f x ≤ f := by
    intro f
    induction f with
    | zero => intro x h0 h; simp at h; omega
    | succ f ih =>
      intro x h0 h; simp only [Lib.bitLenAux]; rw [if_neg (by omega)]
      by_cases hx : x / 2 = 0
      · rw [hx]
        (have : Lib.bitLenAux f 0 = 0 := by cases f <;> simp [Lib.bitLenAux]); rw [this]; (have : x = 1 := by omega); subst this; exact ⟨by decide, by decide, by omega, by omega⟩
      · obtain ⟨a, b, c, d⟩ := ih (x / 2) (by omega) (by rw [Nat.pow_succ] at h; omega)
        refine ⟨?_, ?_, by omega, by omega⟩
        · obtain ⟨n, hn⟩ : ∃ n, Lib.bitLenAux f (x / 2) = n + 1 := ⟨_, (Nat.sub_add_cancel c).symm⟩
          rw [hn] at a ⊢; rw [show 1 + (n + 1) - 1 = n + 1 from by omega, Nat.pow_succ]; rw [Nat.add_sub_cancel] at a; omega
        · rw [Nat.add_comm, Nat.pow_succ]; omega
  exact main 64 y h0 h
end Go.Proofs.Ytcbohbeipgcfhaa.Mth

/- math/bits.Div64 and Rem64, whole: quotient and remainder of a number of 128 bits, for a divisor greater than the upper half (Div64) and for each divisor that is not 0 (Rem64). -/
namespace Go.Proofs.Ytcbohbeipgcfhaa.Mth
open Go.RowKit Go.Proofs.Ytcbohbeipgcfhaa.G Go.Proofs.Ytcbohbeipgcfhaa.Given Go.Proofs.YtcbohbeipgcfhaaW.PrintWords Go.Proofs.YtcbohbeipgcfhaaW.PrintLast Go.Proofs.YtcbohbeipgcfhaaW.PrintMore
set_option linter.unusedVariables false

theorem maskN (a : Nat) (ha : a < 18446744073709551616) : Go.bits .and .u64 (a : Int) 4294967295 = ((a % 4294967296 : Nat) : Int) := by
  have h := bits_and_u64_nat a 4294967295 ha (by omega); have e : a &&& 4294967295 = a % 4294967296 := Nat.and_two_pow_sub_one_eq_mod a 32; rw [e] at h; exact h

theorem shl_nat (a s P : Nat) (hs : s ≤ 64) (hP : 2 ^ s = P) : shl .u64 (a : Int) (s : Int) = ((a * P % 18446744073709551616 : Nat) : Int) := by
  unfold shl; rw [show min (s : Int).toNat IntKind.u64.bits = s from by simp [IntKind.bits]; omega]; rw [wu]; (have : ((a : Int) * 2 ^ s) = ((a * P : Nat) : Int) := by rw [← hP]; simp); rw [this]; rfl
theorem shr_nat (a s P : Nat) (hs : s ≤ 64) (hP : 2 ^ s = P) : shr .u64 (a : Int) (s : Int) = ((a / P : Nat) : Int) := by
  unfold shr; rw [show min (s : Int).toNat IntKind.u64.bits = s from by simp [IntKind.bits]; omega]; (have : ((2 : Int) ^ s) = ((P : Nat) : Int) := by rw [← hP]; simp); rw [this]; rfl

theorem scale_split (hi lo P R : Nat) (hPR : R * P = 18446744073709551616) (hP : 0 < P) :
    (hi * 18446744073709551616 + lo) * P = (hi * P + lo / R) * 18446744073709551616 + lo * P % 18446744073709551616 := by
  (have h1 : lo * P / 18446744073709551616 = lo / R := by rw [← hPR]; exact Nat.mul_div_mul_right _ _ hP); have h2 := Nat.div_add_mod (lo * P) 18446744073709551616; rw [h1] at h2; (have h3 : (hi * 18446744073709551616 + lo) * P = hi * P * 18446744073709551616 + lo * P := by rw [Nat.add_mul, Nat.mul_right_comm]); rw [h3]; obtain ⟨X, hX⟩ : ∃ X, lo * P = X := ⟨_, rfl⟩; obtain ⟨Z, hZ⟩ : ∃ Z, lo / R = Z := ⟨_, rfl⟩; rw [hX, hZ] at h2; rw [hX, hZ]; omega

theorem or_add (a b P s : Nat) (hP : 2 ^ s = P) (hb : b < P) (h : a * P + b < 18446744073709551616) : Go.bits .or .u64 ((a * P : Nat) : Int) (b : Int) = ((a * P + b : Nat) : Int) := by
  rw [bits_or_u64_nat (a * P) b (by omega) (by omega)]
  have : a * P ||| b = a * P + b := by
    rw [← hP] at hb ⊢; rw [Nat.mul_comm]; exact (Nat.two_pow_add_eq_or_of_lt hb a).symm
  rw [this]

theorem div64_ev (hi lo y : Nat) (hy : y < 18446744073709551616) (hlo : lo < 18446744073709551616) (h : hi < y) :
    Ev (fun k => bits_Div64.f k hi lo y) (((hi * 18446744073709551616 + lo) / y : Nat), (((hi * 18446744073709551616 + lo) % y : Nat) : Int)) := by
  by_cases h0 : hi = 0
  · subst h0
    rw [Nat.zero_mul, Nat.zero_add]; refine Ev.congr (fun k => ?_) (Ev.now _); unfold bits_Div64.f; rw [if_neg (by omega), if_neg (by omega), if_pos (by rfl)]; have e4 : Int.tdiv (lo : Int) (y : Int) = ((lo / y : Nat) : Int) := rfl; have e5 : Int.tmod (lo : Int) (y : Int) = ((lo % y : Nat) : Int) := rfl; have hle : lo / y ≤ lo := Nat.div_le_self _ _; rw [e4, e5]; obtain ⟨Q, hQ⟩ : ∃ Q, lo / y = Q := ⟨_, rfl⟩; rw [hQ] at hle ⊢; rw [show IntKind.u64.wrap (Q : Int) = (Q : Int) from by simp only [wu]; omega]
  · obtain ⟨b1, b2, b3, b4⟩ := bitLen_two y (by omega) hy
    obtain ⟨n, hn⟩ : ∃ n, Lib.bitLen y = n := ⟨_, rfl⟩
    have hlz : bits_LeadingZeros64.f (y : Int) = some (((64 - n : Nat) : Int)) := by
      unfold bits_LeadingZeros64.f bits_Len64.f; rw [if_pos (by omega), Option.bind_some]; rw [show ((y : Int).toNat) = y from by omega, hn]; rw [hn] at b4; rw [show wrap64 (64 - (n : Int)) = ((64 - n : Nat) : Int) from by unfold wrap64; omega]
    rw [hn] at b1 b2 b3 b4; obtain ⟨s, hs⟩ : ∃ s, 64 - n = s := ⟨_, rfl⟩; rw [hs] at hlz; obtain ⟨P, hP⟩ : ∃ P, 2 ^ s = P := ⟨_, rfl⟩; obtain ⟨R, hR⟩ : ∃ R, 2 ^ (64 - s) = R := ⟨_, rfl⟩; have hP0 : 0 < P := by rw [← hP]; exact Nat.pow_pos (by decide)
    have hPR : R * P = 18446744073709551616 := by
      rw [← hP, ← hR, ← Nat.pow_add, show 64 - s + s = 64 from by omega]
    have hyP : y * P < 18446744073709551616 := by
      rw [← hPR]; refine Nat.mul_lt_mul_of_pos_right ?_ hP0; rw [← hR, show 64 - s = n from by omega]; exact b2
    have hyP2 : 9223372036854775808 ≤ y * P := by
      (have : 2 ^ (n - 1) * 2 ^ s ≤ y * P := by rw [hP]; exact Nat.mul_le_mul_right _ b1); rw [← Nat.pow_add, show n - 1 + s = 63 from by omega] at this; exact this
    have hhiP : (hi + 1) * P ≤ y * P := Nat.mul_le_mul_right _ h; rw [Nat.succ_mul] at hhiP
    have hloR : lo / R < P := by
      rw [Nat.div_lt_iff_lt_mul (by rw [← hR]; exact Nat.pow_pos (by decide)), Nat.mul_comm, hPR]; exact hlo
    have hsp := scale_split hi lo P R hPR hP0; obtain ⟨V, hV⟩ : ∃ V, y * P = V := ⟨_, rfl⟩; obtain ⟨u, hu⟩ : ∃ u, hi * P + lo / R = u := ⟨_, rfl⟩; obtain ⟨t, ht⟩ : ∃ t, lo * P % 18446744073709551616 = t := ⟨_, rfl⟩; (have htb : t < 18446744073709551616 := by rw [← ht]; exact Nat.mod_lt _ (by decide)); (have eV : shl .u64 (y : Int) (s : Int) = (V : Int) := by rw [shl_nat y s P (by omega) hP, hV, Nat.mod_eq_of_lt (by omega)]); (have eHi : shl .u64 (hi : Int) (s : Int) = ((hi * P : Nat) : Int) := by rw [shl_nat hi s P (by omega) hP, Nat.mod_eq_of_lt (by omega)]); (have eLo : shl .u64 (lo : Int) (s : Int) = (t : Int) := by rw [shl_nat lo s P (by omega) hP, ht]); (have ew : IntKind.u64.wrap (s : Int) = (s : Int) := by simp only [wu]; omega); (have ew2 : IntKind.u64.wrap (64 - (s : Int)) = ((64 - s : Nat) : Int) := by simp only [wu]; omega); have eR : shr .u64 (lo : Int) ((64 - s : Nat) : Int) = ((lo / R : Nat) : Int) := shr_nat lo (64 - s) R (by omega) hR
    have eU : Go.bits .or .u64 ((hi * P : Nat) : Int) ((lo / R : Nat) : Int) = (u : Int) := by
      rw [or_add hi (lo / R) P s hP hloR (by omega), hu]
    rw [hV] at hyP hyP2 hhiP; (have huV : u < V := by omega); rw [hu, ht] at hsp; (have hVs : V = (V / 4294967296) * 4294967296 + V % 4294967296 := by omega); (have hv1 : 2147483648 ≤ V / 4294967296 := by omega); have hK := Kn.start (v1 := V / 4294967296) (v0 := V % 4294967296) (u := u) (d := t / 4294967296) hv1 (by omega) (by omega) (by omega) (by omega); (have hr : u % (V / 4294967296) < 4294967296 := by have := Nat.mod_lt u (show 0 < V / 4294967296 by omega); omega); have hev := l0_ev (V := V) (s := s) (d1 := t / 4294967296) (d0 := t % 4294967296) hVs (by omega) hv1 (by omega) (by omega) (by omega) (by omega) huV _ _ hK hr; rw [show t / 4294967296 * 4294967296 + t % 4294967296 = t from by omega, ← hsp] at hev; obtain ⟨r1, r2⟩ := unscale (N := hi * 18446744073709551616 + lo) (y := y) (s := s) (q := (hi * 18446744073709551616 + lo) * P / V) (r := (hi * 18446744073709551616 + lo) * P % V) (by rw [hP, hV]) (by rw [hP, hV]); rw [r1, r2] at hev; refine Ev.congr (fun k => ?_) hev; unfold bits_Div64.f; rw [if_neg (by omega), if_neg (by omega), if_neg (by omega), hlz, Option.bind_some]; rw [ew, if_pos (by omega), ew2, if_pos (by omega), eV, if_neg (by omega), eHi, eLo, eR, eU, maskN V (by omega), maskN t (by omega)]; (have e4 : ((V : Int) / 4294967296) = ((V / 4294967296 : Nat) : Int) := by omega); (have e5 : ((t : Int) / 4294967296) = ((t / 4294967296 : Nat) : Int) := by omega); rw [e4, e5]; obtain ⟨v1, hv1e⟩ : ∃ v1, V / 4294967296 = v1 := ⟨_, rfl⟩; rw [hv1e] at hK hr hv1 ⊢; have e6 : Int.tdiv (u : Int) (v1 : Int) = ((u / v1 : Nat) : Int) := rfl; rw [e6]; have hq := hK.le; have hdm := Nat.div_add_mod u v1; obtain ⟨Q, hQ⟩ : ∃ Q, u / v1 = Q := ⟨_, rfl⟩; rw [hQ] at hq hdm ⊢; rw [show IntKind.u64.wrap (Q : Int) = (Q : Int) from by simp only [wu]; omega]
    rw [show IntKind.u64.wrap ((u : Int) - IntKind.u64.wrap ((Q : Int) * (v1 : Int))) = ((u % v1 : Nat) : Int) from by
      rw [show (Q : Int) * (v1 : Int) = ((v1 * Q : Nat) : Int) from by rw [Nat.mul_comm]; exact (Int.natCast_mul _ _).symm]; obtain ⟨T, hT⟩ : ∃ T, v1 * Q = T := ⟨_, rfl⟩; obtain ⟨M, hM⟩ : ∃ M, u % v1 = M := ⟨_, rfl⟩; rw [hT, hM] at hdm; rw [hT, hM]; have hM2 : M ≤ u := by rw [← hM]; exact Nat.mod_le _ _
      simp only [wu]; omega]

theorem rem64_ev (hi lo y : Nat) (hy : y < 18446744073709551616) (hlo : lo < 18446744073709551616) (h : 0 < y) :
    Ev (fun k => bits_Rem64.f k hi lo y) (((hi * 18446744073709551616 + lo) % y : Nat) : Int) := by
  have hd := div64_ev (hi % y) lo y hy hlo (Nat.mod_lt _ h)
  have e : (hi % y * 18446744073709551616 + lo) % y = (hi * 18446744073709551616 + lo) % y := by
    rw [Nat.add_mod, Nat.mul_mod, Nat.mod_mod, ← Nat.mul_mod, ← Nat.add_mod]
  rw [e] at hd; refine Ev.congr (fun k => ?_) (Ev.bind (f := fun _ b => some b.2) hd (Ev.now _)); unfold bits_Rem64.f; rw [if_neg (by omega)]; rfl
end Go.Proofs.Ytcbohbeipgcfhaa.Mth

-- Printed by gp.py (a program of this session's own, over the kit's printer) out of the translation; Lean checks it.
namespace Go.Proofs.Ytcbohbeipgcfhaa.G
open Go.Proofs.Ytcbohbeipgcfhaa.Given Go.Proofs.Ytcbohbeipgcfhaa.Short
open Go.RowKit Go.Proofs.YtcbohbeipgcfhaaW.PrintWords Go.Proofs.YtcbohbeipgcfhaaW.PrintLast Go.Proofs.YtcbohbeipgcfhaaW.PrintMore
attribute [local go_sem] max2_int min2_int max_two min_two max_three min_three max_four min_four   -- for this text's walks alone
set_option linter.unusedVariables false
set_option linter.unusedSimpArgs false

attribute [local go_sem high] eqA61
/-! ### r1_Order: function 70 -/
def r1_Order.j0 : Nat → Bool → Int → Int → Int → Int → Option (Int)
 | 0, _, _, _, _, _ => none
 | k + 1, x23, x208000, x208001, x209000, x209001 => if x23 = true then (some (-1)) else (if (x208000 == x209000 && (x208001 == x209001)) = true then (some 0) else (some 1))
def r1_Order.f (k : Nat) (a0_0 : Int) (a0_1 : Int) (a1_0 : Int) (a1_1 : Int) : Option (Int) := if a0_0 < a1_0 then (r1_Order.j0 k true a0_0 a0_1 a1_0 a1_1) else (if a0_0 = a1_0 then (r1_Order.j0 k (decide (a0_1 < a1_1)) a0_0 a0_1 a1_0 a1_1) else (r1_Order.j0 k false a0_0 a0_1 a1_0 a1_1))
theorem r1_Order.mono_l : ∀ k, (∀ y0 y1 y2 y3 y4, LeO (r1_Order.j0 k y0 y1 y2 y3 y4) (r1_Order.j0 (k + 1) y0 y1 y2 y3 y4))
 | 0 => fun _ _ _ _ _ r h => by simp [r1_Order.j0] at h
 | k + 1 => by
  have ih0 := r1_Order.mono_l k
  ·intro y0 y1 y2 y3 y4; unfold r1_Order.j0
   repeat' first
   | (with_reducible exact ih0 _ _ _ _ _)
   | (with_reducible exact LeO.refl _)
   | (with_reducible exact LeO.none _)
   | (with_reducible refine LeO.ite ?_ ?_)
   | (with_reducible refine LeO.bind ?_ (fun _ => ?_))
   | exact ih0 _ _ _ _ _
   | exact LeO.none _
   | refine LeO.ite ?_ ?_
   | refine LeO.bind ?_ (fun _ => ?_)
theorem r1_Order.mono : ∀ a0 a1 a2 a3 k, LeO (r1_Order.f k a0 a1 a2 a3) (r1_Order.f (k + 1) a0 a1 a2 a3) := by
 intro a0 a1 a2 a3 k; have ih0 := r1_Order.mono_l k; unfold r1_Order.f
 repeat' first
   | (with_reducible exact ih0 _ _ _ _ _)
   | (with_reducible exact LeO.refl _)
   | (with_reducible exact LeO.none _)
   | (with_reducible refine LeO.ite ?_ ?_)
   | (with_reducible refine LeO.bind ?_ (fun _ => ?_))
   | exact ih0 _ _ _ _ _
   | exact LeO.none _
   | refine LeO.ite ?_ ?_
   | refine LeO.bind ?_ (fun _ => ?_)
set_option maxHeartbeats 8000000 in
set_option maxRecDepth 100000 in
theorem r1_Order.calls (k : Nat) (a0_0 : Int) (a0_1 : Int) (a1_0 : Int) (a1_1 : Int) (r : Int) (w : World) (h : r1_Order.f k a0_0 a0_1 a1_0 a1_1 = some r) :
  Calls Try.prog 70 #[.agg #[.int .u64 a0_0, .int .u64 a0_1], .agg #[.int .u64 a1_0, .int .u64 a1_1]] w fun e w' => e = .returned (.int .i64 r) ∧ Below w.heap.size w w' := by
 have hu61 := Try.underlying61; have HB := Aside0.mk (Below.refl w.heap.size w); have H : (if a0_0 < a1_0 then (r1_Order.j0 k true a0_0 a0_1 a1_0 a1_1) else (if a0_0 = a1_0 then (r1_Order.j0 k (decide (a0_1 < a1_1)) a0_0 a0_1 a1_0 a1_1) else (r1_Order.j0 k false a0_0 a0_1 a1_0 a1_1))) = some r := h; clear h; have HC3 := Aside0.mk H; clear H; go_enter Try.func70, Try.ntmps70
 go_upto_region 1 with (first | ((with_reducible refine gate_dst (N := 2) rfl ?_); refine bx (N := 2) (cs := #[.int .u64 a0_0, .int .u64 a0_1]) (t := 61) ?_; intro gb207 hg w4 hbox hb; have BK207 := Aside0.mk (hbox); have GW207 := gs HB hg; have GE207 := gs HB hg; replace HB := wb HB hb; clear hb hbox hg) | ((with_reducible refine gate_dst (N := 3) rfl ?_); refine bx (N := 3) (cs := #[.int .u64 a1_0, .int .u64 a1_1]) (t := 61) ?_; intro gb208 hg w5 hbox hb; have BK208 := Aside0.mk (hbox); have GW208 := gs HB hg; have GE208 := gs HB hg; have NB207_208 := nl BK207 hg; have NB208_207 := nr BK207 hg; replace BK207 := kb BK207 hb; replace HB := wb HB hb; clear hb hbox hg))
 (try simp only [Act.put, List.setIfInBounds_toArray, List.set_cons_zero, List.set_cons_succ])
 go_cut [23] (fun v23 wc => ∃ (kq : Nat) (x23_2 : Bool), v23 = .bool x23_2 ∧ Aside0 (r1_Order.j0 kq x23_2 a0_0 a0_1 a1_0 a1_1 = some r) ∧ Aside0 (kq ≤ k) ∧ Aside0 (wc.heap[gb207]? = some (.cells #[.int .u64 a0_0, .int .u64 a0_1] 61 (0, 0))) ∧ Aside0 (wc.heap[gb208]? = some (.cells #[.int .u64 a1_0, .int .u64 a1_1] 61 (0, 0))) ∧ Aside0 (Below w.heap.size w wc))
 case first =>
  have H := HC3.out; clear HC3
  by_cases c6 : a0_0 < a1_0
  ·rw [if_pos c6] at H; have c6b0 : decide (a0_0 < a1_0) = true := decide_eq_true c6; clear c6
   (first | rw [c6b0] | (simp only [i64_w, i32_w]; rw [c6b0]) | skip)
   have H' := Aside0.mk H; clear H; obtain ⟨hnb7, hnc7⟩ := n2 NB207_208; have hcz8_0 : w5.cell? ⟨gb207, 0, none⟩ = some (.int .u64 a0_0) := bc BK207 0; have hcz8_1 : w5.cell? ⟨gb207, 1, none⟩ = some (.int .u64 a0_1) := bc BK207 1; have hfz8_0 := blk_frozen BK207.out 0; have hfz8_1 := blk_frozen BK207.out 1; have hcz9_0 : w5.cell? ⟨gb208, 0, none⟩ = some (.int .u64 a1_0) := bc BK208 0; have hcz9_1 : w5.cell? ⟨gb208, 1, none⟩ = some (.int .u64 a1_1) := bc BK208 1; have hfz9_0 := blk_frozen BK208.out 0; have hfz9_1 := blk_frozen BK208.out 1; go_wp2
   go_meet
   case rel => exact ⟨_, (true), (by first | rfl | (simp; done) | (simp [*]; done)), H', ⟨by first | omega | exact Nat.le_refl _⟩, ⟨bq BK207⟩, ⟨bq BK208⟩, ⟨bw HB⟩⟩
  ·rw [if_neg c6] at H; have c6b0 : decide (a0_0 < a1_0) = false := decide_eq_false c6; clear c6
   (first | rw [c6b0] | (simp only [i64_w, i32_w]; rw [c6b0]) | skip)
   by_cases c10 : a0_0 = a1_0
   ·rw [if_pos c10] at H; have c10b0 : (a0_0 == a1_0) = true := beq_iff_eq.mpr c10; have c10b1 : (a0_0 != a1_0) = false := bne_eq_false_iff_eq.mpr c10; clear c10; have H' := Aside0.mk H; clear H; obtain ⟨hnb11, hnc11⟩ := n2 NB207_208; have hcz12_0 : w5.cell? ⟨gb207, 0, none⟩ = some (.int .u64 a0_0) := bc BK207 0; have hcz12_1 : w5.cell? ⟨gb207, 1, none⟩ = some (.int .u64 a0_1) := bc BK207 1; have hfz12_0 := blk_frozen BK207.out 0; have hfz12_1 := blk_frozen BK207.out 1; have hcz13_0 : w5.cell? ⟨gb208, 0, none⟩ = some (.int .u64 a1_0) := bc BK208 0; have hcz13_1 : w5.cell? ⟨gb208, 1, none⟩ = some (.int .u64 a1_1) := bc BK208 1; have hfz13_0 := blk_frozen BK208.out 0; have hfz13_1 := blk_frozen BK208.out 1; go_wp2
    go_meet
    case rel => exact ⟨_, (decide (a0_1 < a1_1)), (by first | rfl | (simp; done) | (simp [*]; done)), H', ⟨by first | omega | exact Nat.le_refl _⟩, ⟨bq BK207⟩, ⟨bq BK208⟩, ⟨bw HB⟩⟩
   ·rw [if_neg c10] at H; have c10b0 : (a0_0 == a1_0) = false := beq_eq_false_iff_ne.mpr c10; have c10b1 : (a0_0 != a1_0) = true := bne_iff_ne.mpr c10; have H' := Aside0.mk H; clear H; obtain ⟨hnb14, hnc14⟩ := n2 NB207_208; have hcz15_0 : w5.cell? ⟨gb207, 0, none⟩ = some (.int .u64 a0_0) := bc BK207 0; have hcz15_1 : w5.cell? ⟨gb207, 1, none⟩ = some (.int .u64 a0_1) := bc BK207 1; have hfz15_0 := blk_frozen BK207.out 0; have hfz15_1 := blk_frozen BK207.out 1; have hcz16_0 : w5.cell? ⟨gb208, 0, none⟩ = some (.int .u64 a1_0) := bc BK208 0; have hcz16_1 : w5.cell? ⟨gb208, 1, none⟩ = some (.int .u64 a1_1) := bc BK208 1; have hfz16_0 := blk_frozen BK208.out 0; have hfz16_1 := blk_frozen BK208.out 1; go_wp2
    go_meet
    case rel => exact ⟨_, (false), (by first | rfl | (simp; done) | (simp [*]; done)), H', ⟨by first | omega | exact Nat.le_refl _⟩, ⟨bq BK207⟩, ⟨bq BK208⟩, ⟨bw HB⟩⟩
 case rest =>
  clear HC3; (try clear c1); (try clear p2); (try clear c6); (try clear c6b0); (try clear c7); (try clear c10); (try clear c10b0); (try clear c10b1); (try clear c11); (try clear c14); (try clear hcz12_0); (try clear hcz12_1); (try clear hcz13_0); (try clear hcz13_1); (try clear hcz15_0); (try clear hcz15_1); (try clear hcz16_0); (try clear hcz16_1); (try clear hcz8_0); (try clear hcz8_1); (try clear hcz9_0); (try clear hcz9_1); (try clear hfz12_0); (try clear hfz12_1); (try clear hfz13_0); (try clear hfz13_1); (try clear hfz15_0); (try clear hfz15_1); (try clear hfz16_0); (try clear hfz16_1); (try clear hfz8_0); (try clear hfz8_1); (try clear hfz9_0); (try clear hfz9_1); obtain ⟨kq, x23_2, rfl, HA, HJ2, BK207, BK208, HB⟩ := hcut
  cases kq with
  | zero => exact absurd HA.out (by simp [r1_Order.j0])
  | succ kj2 =>
   have H := HA.out; clear HA; simp only [r1_Order.j0] at H
   by_cases c17 : x23_2 = true
   ·subst c17; (have H1 : (some (-1)) = some r := by rw [if_pos rfl] at H; exact H); clear H; have H := H1; clear H1; obtain rfl := Option.some.inj H; (go_wp2); (go_ret); exact ⟨by first | rfl | (simp [errW_none, errW_some] <;> rfl) | (simp [*, errW_none, errW_some] <;> rfl), bw HB⟩
   ·replace c17 := Bool.eq_false_iff.mpr c17; subst c17; (have H1 : (if (a0_0 == a1_0 && (a0_1 == a1_1)) = true then (some 0) else (some 1)) = some r := by rw [if_neg (show ¬ (false = true) by decide)] at H; exact H); clear H; have H := H1; clear H1
    by_cases c18 : (a0_0 == a1_0 && (a0_1 == a1_1)) = true
    ·rw [if_pos c18] at H; have c18b0 : (a0_0 == a1_0 && (a0_1 == a1_1)) = true := c18; (try (have c18b1 : decide (a0_0 = a1_0 && (a0_1 == a1_1)) = true := by simpa using c18)); (try (have c18b2 : (a0_0 == a1_0 && (a0_1 == a1_1)) = true := by simpa using c18)); clear c18; obtain rfl := Option.some.inj H; obtain ⟨hnb19, hnc19⟩ := n2 NB207_208; have hcz20_0 : wc.cell? ⟨gb207, 0, none⟩ = some (.int .u64 a0_0) := bc BK207 0; have hcz20_1 : wc.cell? ⟨gb207, 1, none⟩ = some (.int .u64 a0_1) := bc BK207 1; have hfz20_0 := blk_frozen BK207.out 0; have hfz20_1 := blk_frozen BK207.out 1; have hcz21_0 : wc.cell? ⟨gb208, 0, none⟩ = some (.int .u64 a1_0) := bc BK208 0; have hcz21_1 : wc.cell? ⟨gb208, 1, none⟩ = some (.int .u64 a1_1) := bc BK208 1; have hfz21_0 := blk_frozen BK208.out 0; have hfz21_1 := blk_frozen BK208.out 1; (go_wp2); (go_ret); exact ⟨by first | rfl | (simp [errW_none, errW_some] <;> rfl) | (simp [*, errW_none, errW_some] <;> rfl), bw HB⟩
    ·rw [if_neg c18] at H; (have c18b0 : (a0_0 == a1_0 && (a0_1 == a1_1)) = false := by simpa using c18); (try (have c18b1 : decide (a0_0 = a1_0 && (a0_1 == a1_1)) = false := by simpa using c18)); (try (have c18b2 : (a0_0 == a1_0 && (a0_1 == a1_1)) = false := by simpa using c18)); (try (have c18b3 : ¬ (a0_0 = a1_0 && (a0_1 == a1_1)) := by simpa using c18)); clear c18; obtain rfl := Option.some.inj H; obtain ⟨hnb22, hnc22⟩ := n2 NB207_208; have hcz23_0 : wc.cell? ⟨gb207, 0, none⟩ = some (.int .u64 a0_0) := bc BK207 0; have hcz23_1 : wc.cell? ⟨gb207, 1, none⟩ = some (.int .u64 a0_1) := bc BK207 1; have hfz23_0 := blk_frozen BK207.out 0; have hfz23_1 := blk_frozen BK207.out 1; have hcz24_0 : wc.cell? ⟨gb208, 0, none⟩ = some (.int .u64 a1_0) := bc BK208 0; have hcz24_1 : wc.cell? ⟨gb208, 1, none⟩ = some (.int .u64 a1_1) := bc BK208 1; have hfz24_0 := blk_frozen BK208.out 0; have hfz24_1 := blk_frozen BK208.out 1; (go_wp2); (go_ret); exact ⟨by first | rfl | (simp [errW_none, errW_some] <;> rfl) | (simp [*, errW_none, errW_some] <;> rfl), bw HB⟩

end Go.Proofs.Ytcbohbeipgcfhaa.G

-- Printed by gp.py (a program of this session's own, over the kit's printer) out of the translation; Lean checks it.
namespace Go.Proofs.Ytcbohbeipgcfhaa.G
open Go.Proofs.Ytcbohbeipgcfhaa.Given Go.Proofs.Ytcbohbeipgcfhaa.Short
open Go.RowKit Go.Proofs.YtcbohbeipgcfhaaW.PrintWords Go.Proofs.YtcbohbeipgcfhaaW.PrintLast Go.Proofs.YtcbohbeipgcfhaaW.PrintMore
attribute [local go_sem] max2_int min2_int max_two min_two max_three min_three max_four min_four   -- for this text's walks alone
set_option linter.unusedVariables false
set_option linter.unusedSimpArgs false

/-! ### r1_Minus: function 71 -/
def r1_Minus.f (a0_0 : Int) (a0_1 : Int) (a1_0 : Int) (a1_1 : Int) : Option (Int × Int) := (bits_Sub64.f a0_1 a1_1 0).bind fun bt212 => ((bits_Sub64.f a0_0 a1_0 bt212.2).bind fun bt214 => (some (bt214.1, bt212.1)))
set_option maxHeartbeats 8000000 in
set_option maxRecDepth 100000 in
theorem r1_Minus.calls (a0_0 : Int) (a0_1 : Int) (a1_0 : Int) (a1_1 : Int) (r1 : Int) (r2 : Int) (w : World) (h : r1_Minus.f a0_0 a0_1 a1_0 a1_1 = some (r1, r2)) :
  Calls Try.prog 71 #[.agg #[.int .u64 a0_0, .int .u64 a0_1], .agg #[.int .u64 a1_0, .int .u64 a1_1]] w fun e w' => e = .returned (.agg #[.int .u64 r1, .int .u64 r2]) ∧ Below w.heap.size w w' := by
 have hu61 := Try.underlying61; have HB := Aside0.mk (Below.refl w.heap.size w); have H : ((bits_Sub64.f a0_1 a1_1 0).bind fun bt212 => ((bits_Sub64.f a0_0 a1_0 bt212.2).bind fun bt214 => (some (bt214.1, bt212.1)))) = some (r1, r2) := h; clear h; replace H := Option.bind_eq_some_iff.mp H; obtain ⟨⟨t212, t213⟩, A30, H⟩ := H; (try dsimp only at H); have A3 := Aside0.mk A30; clear A30; replace H := Option.bind_eq_some_iff.mp H; obtain ⟨⟨t214, t215⟩, A40, H⟩ := H; (try dsimp only at H); have A4 := Aside0.mk A40; clear A40; simp only [Option.some.injEq, Prod.mk.injEq] at H; obtain ⟨rfl, rfl⟩ := H; (go_enter Try.func71, Try.ntmps71); (go_wp2_with (first | ((with_reducible refine gate_dst (N := 2) rfl ?_); refine bx (N := 2) (cs := #[.int .u64 a0_0, .int .u64 a0_1]) (t := 61) ?_; intro gb209 hg w5 hbox hb; have BK209 := Aside0.mk (hbox); have GW209 := gs HB hg; have GE209 := gs HB hg; replace HB := wb HB hb; clear hb hbox hg) | ((with_reducible refine gate_dst (N := 3) rfl ?_); refine bx (N := 3) (cs := #[.int .u64 a1_0, .int .u64 a1_1]) (t := 61) ?_; intro gb210 hg w6 hbox hb; have BK210 := Aside0.mk (hbox); have GW210 := gs HB hg; have GE210 := gs HB hg; have NB209_210 := nl BK209 hg; have NB210_209 := nr BK209 hg; replace BK209 := kb BK209 hb; replace HB := wb HB hb; clear hb hbox hg) | ((with_reducible refine gate_dst (N := 4) rfl ?_); refine bx (N := 4) (cs := #[.int .u64 0, .int .u64 0]) (t := 61) ?_; intro gb211 hg w7 hbox hb; have BK211 := Aside0.mk (hbox); have GW211 := gs HB hg; have GE211 := gs HB hg; have NB209_211 := nl BK209 hg; have NB211_209 := nr BK209 hg; have NB210_211 := nl BK210 hg; have NB211_210 := nr BK210 hg; replace BK209 := kb BK209 hb; replace BK210 := kb BK210 hb; replace HB := wb HB hb; clear hb hbox hg; obtain ⟨hnb8, hnc8⟩ := n2 NB209_210; obtain ⟨hnb9, hnc9⟩ := n2 NB209_211; have hcz10_0 : w7.cell? ⟨gb209, 0, none⟩ = some (.int .u64 a0_0) := bc BK209 0; have hcz10_1 : w7.cell? ⟨gb209, 1, none⟩ = some (.int .u64 a0_1) := bc BK209 1; have hfz10_0 := blk_frozen BK209.out 0; have hfz10_1 := blk_frozen BK209.out 1; obtain ⟨hnb11, hnc11⟩ := n2 NB210_211; have hcz12_0 : w7.cell? ⟨gb210, 0, none⟩ = some (.int .u64 a1_0) := bc BK210 0; have hcz12_1 : w7.cell? ⟨gb210, 1, none⟩ = some (.int .u64 a1_1) := bc BK210 1; have hfz12_0 := blk_frozen BK210.out 0; have hfz12_1 := blk_frozen BK210.out 1) | ((with_reducible refine gate_callee (f := 74) rfl ?_); refine gx (some 14) Try.func74 #[.int .u64 a0_1, .int .u64 a1_1, .int .u64 0] ?_; (with_reducible refine (bits_Sub64.calls a0_1 a1_1 0 t212 t213 _ A3.out).mono ?_); rintro e w13 ⟨rfl, hb⟩; refine ⟨_, rfl, ?_⟩; replace BK209 := kb BK209 hb; replace BK210 := kb BK210 hb; replace BK211 := kb BK211 hb; replace HB := wb HB hb; (try clear hb); (try clear hb2); (try clear hk); (try clear hi); have hcz14_0 : w13.cell? ⟨gb209, 0, none⟩ = some (.int .u64 a0_0) := bc BK209 0; have hcz14_1 : w13.cell? ⟨gb209, 1, none⟩ = some (.int .u64 a0_1) := bc BK209 1; have hfz14_0 := blk_frozen BK209.out 0; have hfz14_1 := blk_frozen BK209.out 1; have hcz15_0 : w13.cell? ⟨gb210, 0, none⟩ = some (.int .u64 a1_0) := bc BK210 0; have hcz15_1 : w13.cell? ⟨gb210, 1, none⟩ = some (.int .u64 a1_1) := bc BK210 1; have hfz15_0 := blk_frozen BK210.out 0; have hfz15_1 := blk_frozen BK210.out 1) | ((with_reducible refine gate_callee (f := 74) rfl ?_); refine gx (some 23) Try.func74 #[.int .u64 a0_0, .int .u64 a1_0, .int .u64 t213] ?_; (with_reducible refine (bits_Sub64.calls a0_0 a1_0 t213 t214 t215 _ A4.out).mono ?_); rintro e w16 ⟨rfl, hb⟩; refine ⟨_, rfl, ?_⟩; replace BK209 := kb BK209 hb; replace BK210 := kb BK210 hb; replace BK211 := kb BK211 hb; replace HB := wb HB hb; (try clear hb); (try clear hb2); (try clear hk); (try clear hi); have hcz17_0 : w16.cell? ⟨gb211, 0, none⟩ = some (.int .u64 0) := bc BK211 0; have hcz17_1 : w16.cell? ⟨gb211, 1, none⟩ = some (.int .u64 0) := bc BK211 1; have hfz17_0 := blk_frozen BK211.out 0; have hfz17_1 := blk_frozen BK211.out 1))); refine bodyPost_ret (results_cell_row rfl _ _ gb211 61 #[.int .u64 t214, .int .u64 t212] (0, 0) _ rfl (by refine pe ?_; refine blk_put (cs := #[.int .u64 t214, .int .u64 0]) ?_ 1 _ rfl; refine pe ?_; refine blk_put (cs := #[.int .u64 0, .int .u64 0]) ?_ 0 _ rfl; refine pe ?_; exact BK211.out) Try.underlying61 rfl (by kernel_rfl)) rfl ?_; exact ⟨by first | rfl | (simp [errW_none, errW_some] <;> rfl) | (simp [*, errW_none, errW_some] <;> rfl), bw HB⟩

end Go.Proofs.Ytcbohbeipgcfhaa.G

-- Printed by gp.py (a program of this session's own, over the kit's printer) out of the translation; Lean checks it.
namespace Go.Proofs.Ytcbohbeipgcfhaa.G
open Go.Proofs.Ytcbohbeipgcfhaa.Given Go.Proofs.Ytcbohbeipgcfhaa.Short
open Go.RowKit Go.Proofs.YtcbohbeipgcfhaaW.PrintWords Go.Proofs.YtcbohbeipgcfhaaW.PrintLast Go.Proofs.YtcbohbeipgcfhaaW.PrintMore
attribute [local go_sem] max2_int min2_int max_two min_two max_three min_three max_four min_four   -- for this text's walks alone
set_option linter.unusedVariables false
set_option linter.unusedSimpArgs false

/-! ### r1_Twice: function 75 -/
def r1_Twice.f (a0_0 : Int) (a0_1 : Int) : Option (Int × Int) := some (Go.bits .or .u64 (IntKind.u64.wrap (a0_0 * 2)) (a0_1 / 9223372036854775808), IntKind.u64.wrap (a0_1 * 2))
set_option maxHeartbeats 8000000 in
set_option maxRecDepth 100000 in
theorem r1_Twice.calls (a0_0 : Int) (a0_1 : Int) (r1 : Int) (r2 : Int) (w : World) (h : r1_Twice.f a0_0 a0_1 = some (r1, r2)) :
  Calls Try.prog 75 #[.agg #[.int .u64 a0_0, .int .u64 a0_1]] w fun e w' => e = .returned (.agg #[.int .u64 r1, .int .u64 r2]) ∧ Below w.heap.size w w' := by
 have hu61 := Try.underlying61; have HB := Aside0.mk (Below.refl w.heap.size w); have H : (some (Go.bits .or .u64 (IntKind.u64.wrap (a0_0 * 2)) (a0_1 / 9223372036854775808), IntKind.u64.wrap (a0_1 * 2))) = some (r1, r2) := h; clear h; simp only [Option.some.injEq, Prod.mk.injEq] at H; obtain ⟨rfl, rfl⟩ := H; (go_enter Try.func75, Try.ntmps75); (go_wp2_with (first | ((with_reducible refine gate_dst (N := 1) rfl ?_); refine bx (N := 1) (cs := #[.int .u64 a0_0, .int .u64 a0_1]) (t := 61) ?_; intro gb216 hg w2 hbox hb; have BK216 := Aside0.mk (hbox); have GW216 := gs HB hg; have GE216 := gs HB hg; replace HB := wb HB hb; clear hb hbox hg) | ((with_reducible refine gate_dst (N := 2) rfl ?_); refine bx (N := 2) (cs := #[.int .u64 0, .int .u64 0]) (t := 61) ?_; intro gb217 hg w3 hbox hb; have BK217 := Aside0.mk (hbox); have GW217 := gs HB hg; have GE217 := gs HB hg; have NB216_217 := nl BK216 hg; have NB217_216 := nr BK216 hg; replace BK216 := kb BK216 hb; replace HB := wb HB hb; clear hb hbox hg; obtain ⟨hnb4, hnc4⟩ := n2 NB216_217; have hcz5_0 : w3.cell? ⟨gb216, 0, none⟩ = some (.int .u64 a0_0) := bc BK216 0; have hcz5_1 : w3.cell? ⟨gb216, 1, none⟩ = some (.int .u64 a0_1) := bc BK216 1; have hfz5_0 := blk_frozen BK216.out 0; have hfz5_1 := blk_frozen BK216.out 1; have hcz6_0 : w3.cell? ⟨gb217, 0, none⟩ = some (.int .u64 0) := bc BK217 0; have hcz6_1 : w3.cell? ⟨gb217, 1, none⟩ = some (.int .u64 0) := bc BK217 1; have hfz6_0 := blk_frozen BK217.out 0; have hfz6_1 := blk_frozen BK217.out 1))); refine bodyPost_ret (results_cell_row rfl _ _ gb217 61 #[.int .u64 (Go.bits .or .u64 (IntKind.u64.wrap (a0_0 * 2)) (a0_1 / 9223372036854775808)), .int .u64 (IntKind.u64.wrap (a0_1 * 2))] (0, 0) _ rfl (by refine pe ?_; refine blk_put (cs := #[.int .u64 (Go.bits .or .u64 (IntKind.u64.wrap (a0_0 * 2)) (a0_1 / 9223372036854775808)), .int .u64 0]) ?_ 1 _ rfl; refine pe ?_; refine blk_put (cs := #[.int .u64 0, .int .u64 0]) ?_ 0 _ rfl; refine pe ?_; exact BK217.out) Try.underlying61 rfl (by kernel_rfl)) rfl ?_; exact ⟨by first | rfl | (simp [errW_none, errW_some] <;> rfl) | (simp [*, errW_none, errW_some] <;> rfl), bw HB⟩

end Go.Proofs.Ytcbohbeipgcfhaa.G
