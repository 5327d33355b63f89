/- Texts of this claim laid together: Gf10, MathA, MathDiv, MathDivB, Gf69, MathC. -/
import Derived.Test.YtcbohbeipgcfhaaShortC
import Derived.Test.YtcbohbeipgcfhaaG0
import Derived.Test.YtcbohbeipgcfhaaGe0
import Derived.Test.YtcbohbeipgcfhaaZSon2
import Derived.Test.YtcbohbeipgcfhaaZSon7
import Derived.Test.YtcbohbeipgcfhaaZSon9
import Derived.Test.YtcbohbeipgcfhaaZSon1
import Derived.Test.YtcbohbeipgcfhaaZSon5
import Derived.Laws.Bits64b
-- Printed by gp.py (a program of this session's own, over the kit's printer) out of the translation; Lean checks it.
namespace Go.Proofs.Ytcbohbeipgcfhaa.G
open Go.Proofs.Ytcbohbeipgcfhaa.Given Go.Proofs.Ytcbohbeipgcfhaa.Short
open Go.RowKit Go.Proofs.YtcbohbeipgcfhaaW.PrintWords Go.Proofs.YtcbohbeipgcfhaaW.PrintLast Go.Proofs.YtcbohbeipgcfhaaW.PrintMore
attribute [local go_sem] max2_int min2_int max_two min_two max_three min_three max_four min_four   -- for this text's walks alone
set_option linter.unusedVariables false
set_option linter.unusedSimpArgs false

attribute [local go_sem high] eqA35
/-! ### awardingbodylaw01_RatioSumsAnyOrder: function 10 -/
def awardingbodylaw01_RatioSumsAnyOrder.l0 : Nat → List (S35) → List Int → List (S35) → Int → Option (Bool)
 | 0, _, _, _, _ => none
 | k + 1, x4, x5, x6, x7 => if x7 < (x5.length : Int) then (if 0 ≤ x7 then (if 0 ≤ (rd x5 x7) then (if (rd x5 x7) < (x4.length : Int) then (if x6.length < 8796093022208 then (awardingbodylaw01_RatioSumsAnyOrder.l0 k x4 x5 (x6 ++ [(⟨(rd_T35 x4 (rd x5 x7)).f0, (rd_T35 x4 (rd x5 x7)).f1⟩ : S35)]) (wrap64 (x7 + 1))) else (none)) else (none)) else (none)) else (none)) else ((ratio_Sum.f k x4).bind fun bt665 => ((ratio_Sum.f k x6).bind fun bt669 => (if (bt665.1 == bt669.1 && (bt665.2.1 == bt669.2.1)) = true then (if bt665.2.2 = bt669.2.2 then ((awardingbodylaw01_awake.f k).bind fun t673 => (some t673)) else (some false)) else (some false))))
def awardingbodylaw01_RatioSumsAnyOrder.f (k : Nat) (l0 : List Int) : Option (Bool) := (mk_New.f l0).bind fun bt649 => ((awardingbodylaw01_list.f k bt649.1 bt649.2 true).bind fun bt652 => ((tp_Order.f k bt649.1 bt652.2 (bt652.1.length : Int)).bind fun bt656 => (awardingbodylaw01_RatioSumsAnyOrder.l0 k bt652.1 bt656.1 ([] : List (S35)) 0)))
theorem awardingbodylaw01_RatioSumsAnyOrder.mono_l : ∀ k, (∀ y0 y1 y2 y3, LeO (awardingbodylaw01_RatioSumsAnyOrder.l0 k y0 y1 y2 y3) (awardingbodylaw01_RatioSumsAnyOrder.l0 (k + 1) y0 y1 y2 y3))
 | 0 => fun _ _ _ _ r h => by simp [awardingbodylaw01_RatioSumsAnyOrder.l0] at h
 | k + 1 => by
  have ih0 := awardingbodylaw01_RatioSumsAnyOrder.mono_l k
  ·intro y0 y1 y2 y3; unfold awardingbodylaw01_RatioSumsAnyOrder.l0
   repeat' first
   | (with_reducible exact ih0 _ _ _ _)
   | (with_reducible exact awardingbodylaw01_awake.mono _)
   | (with_reducible exact awardingbodylaw01_list.mono _ _ _ _)
   | (with_reducible exact tp_Order.mono _ _ _ _)
   | (with_reducible exact ratio_Sum.mono _ _)
   | (with_reducible exact LeO.refl _)
   | (with_reducible exact LeO.none _)
   | (with_reducible refine LeO.ite ?_ ?_)
   | (with_reducible refine LeO.bind ?_ (fun _ => ?_))
   | exact ih0 _ _ _ _
   | exact awardingbodylaw01_awake.mono _
   | exact awardingbodylaw01_list.mono _ _ _ _
   | exact tp_Order.mono _ _ _ _
   | exact ratio_Sum.mono _ _
   | exact LeO.none _
   | refine LeO.ite ?_ ?_
   | refine LeO.bind ?_ (fun _ => ?_)
theorem awardingbodylaw01_RatioSumsAnyOrder.mono : ∀ a0 k, LeO (awardingbodylaw01_RatioSumsAnyOrder.f k a0) (awardingbodylaw01_RatioSumsAnyOrder.f (k + 1) a0) := by
 intro a0 k; have ih0 := awardingbodylaw01_RatioSumsAnyOrder.mono_l k; unfold awardingbodylaw01_RatioSumsAnyOrder.f
 repeat' first
   | (with_reducible exact ih0 _ _ _ _)
   | (with_reducible exact awardingbodylaw01_awake.mono _)
   | (with_reducible exact awardingbodylaw01_list.mono _ _ _ _)
   | (with_reducible exact tp_Order.mono _ _ _ _)
   | (with_reducible exact ratio_Sum.mono _ _)
   | (with_reducible exact LeO.refl _)
   | (with_reducible exact LeO.none _)
   | (with_reducible refine LeO.ite ?_ ?_)
   | (with_reducible refine LeO.bind ?_ (fun _ => ?_))
   | exact ih0 _ _ _ _
   | exact awardingbodylaw01_awake.mono _
   | exact awardingbodylaw01_list.mono _ _ _ _
   | exact tp_Order.mono _ _ _ _
   | exact ratio_Sum.mono _ _
   | exact LeO.none _
   | refine LeO.ite ?_ ?_
   | refine LeO.bind ?_ (fun _ => ?_)
set_option maxHeartbeats 8000000 in
set_option maxRecDepth 100000 in
theorem awardingbodylaw01_RatioSumsAnyOrder.calls (k : Nat) (A0 : Option Addr) (c0 : Nat) (l0 : List Int) (r : Bool) (w : World) (hr0 : Kd.C (Kd.int .i64) w A0 l0.length l0) (hc0 : l0.length ≤ c0) (h : awardingbodylaw01_RatioSumsAnyOrder.f k l0 = some r) :
  Calls Try.prog 10 #[.slice A0 l0.length c0] w fun e w' => e = .returned (.bool r) ∧ Below w.heap.size w w' := by
 have hu35 := Try.underlying35; have HR0 := Aside0.mk hr0; have HC0 := Aside0.mk hc0; clear hr0 hc0; have HB := Aside0.mk (Below.refl w.heap.size w); have H : ((mk_New.f l0).bind fun bt649 => ((awardingbodylaw01_list.f k bt649.1 bt649.2 true).bind fun bt652 => ((tp_Order.f k bt649.1 bt652.2 (bt652.1.length : Int)).bind fun bt656 => (awardingbodylaw01_RatioSumsAnyOrder.l0 k bt652.1 bt656.1 ([] : List (S35)) 0)))) = some r := h; clear h; replace H := Option.bind_eq_some_iff.mp H; obtain ⟨⟨t649, t650⟩, A20, H⟩ := H; (try dsimp only at H); have A2 := Aside0.mk A20; clear A20; replace H := Option.bind_eq_some_iff.mp H; obtain ⟨⟨t652, t655⟩, A30, H⟩ := H; (try dsimp only at H); have A3 := Aside0.mk A30; clear A30; replace H := Option.bind_eq_some_iff.mp H; obtain ⟨⟨t656, t659⟩, A40, H⟩ := H; (try dsimp only at H); have A4 := Aside0.mk A40; clear A40; have H' := Aside0.mk H; clear H; (go_enter Try.func10, Try.ntmps10); (go_wp2_with (first | ((with_reducible refine gate_callee (f := 19) rfl ?_); refine gl (some 13) Try.func19 #[.slice A0 l0.length c0] ?_; (with_reducible refine (mk_New.calls _ _ l0 t649 t650 w _ ?side1 ?side2 ?side3 A2.out).mono ?_); (case side1 => repeat (first | (with_reducible first | exact HB.out | apply below_alloc | apply pw_below_drewN | apply below_drew1) | exact HB.out)); (case side2 => exact HR0.out); (case side3 => exact HC0.out); rintro e w5 ⟨g651, rfl, hi, hb, hb2⟩; refine ⟨_, rfl, ?_⟩; have HI651 := Aside0.mk (hi); replace HB := Aside0.mk (hb); (try clear hb); (try clear hb2); (try clear hk); (try clear hi)) | ((with_reducible refine gate_callee (f := 35) rfl ?_); refine gl (some 15) Try.func35 #[.pointer (some ⟨g651, 0, none⟩), .bool true] ?_; (with_reducible refine (awardingbodylaw01_list.calls k g651 t649 t650 true t652 t655 w _ ?side1 ?side2 A3.out).mono ?_); (case side1 => repeat (first | (with_reducible first | exact HI651.out | apply IsS53.alloc | apply IsS53.drewN | apply IsS53.drew | apply IsS53.set_1) | exact HI651.out)); (case side2 => repeat (first | (with_reducible first | exact HB.out | apply below_alloc | apply pw_below_drewN | apply below_drew1 | refine below_set ?_ (IsS53.ge HI651.out)) | exact HB.out)); rintro e w6 ⟨v653, rfl, ho0, hi, hb, hk⟩; refine ⟨_, rfl, ?_⟩; have HO654 := Aside0.mk (Kd.R_lower ho0 (below_size (by repeat (first | (with_reducible first | exact HB.out | apply below_alloc | apply pw_below_drewN | apply below_drew1 | refine below_set ?_ (IsS53.ge HI651.out)) | exact HB.out)))); replace HB := Aside0.mk (hb); replace HI651 := Aside0.mk (hi); (try clear hb); (try clear hb2); (try clear hk); (try clear hi); (try clear ho0); obtain ⟨Ao7, co7, eo7⟩ := Kd.R_slice HO654.out; subst eo7) | ((with_reducible refine gate_callee (f := 38) rfl ?_); refine gl (some 19) Try.func38 #[.pointer (some ⟨g651, 0, none⟩), .int .i64 (t652.length : Int)] ?_; (with_reducible refine (tp_Order.calls k g651 t649 t655 (t652.length : Int) t656 t659 w _ ?side1 ?side2 A4.out).mono ?_); (case side1 => repeat (first | (with_reducible first | exact HI651.out | apply IsS53.alloc | apply IsS53.drewN | apply IsS53.drew | apply IsS53.set_1) | exact HI651.out)); (case side2 => repeat (first | (with_reducible first | exact HB.out | apply below_alloc | apply pw_below_drewN | apply below_drew1 | refine below_set ?_ (IsS53.ge HI651.out)) | exact HB.out)); rintro e w8 ⟨v657, rfl, ho0, hi, hb, hk⟩; refine ⟨_, rfl, ?_⟩; have HO658 := Aside0.mk (Kd.R_lower ho0 (below_size (by repeat (first | (with_reducible first | exact HB.out | apply below_alloc | apply pw_below_drewN | apply below_drew1 | refine below_set ?_ (IsS53.ge HI651.out)) | exact HB.out)))); replace HO654 := Aside0.mk (Kd.R_mono (Kd.R_keep (IsS53.apart (show IsS53 w _ g651 t649 t655 from by repeat (first | (with_reducible first | exact HI651.out | apply IsS53.alloc | apply IsS53.drewN | apply IsS53.drew | apply IsS53.set_1) | exact HI651.out)) (by (with_reducible repeat (first | apply Kd.R_alloc | apply Kd.R_drewN | apply Kd.R_drew)); exact HO654.out) (by decide)) hk (fun _ h => h.2)) (fun _ h => h.1)); replace HB := Aside0.mk (hb); replace HI651 := Aside0.mk (hi); (try clear hb); (try clear hb2); (try clear hk); (try clear hi); (try clear ho0)))); (try simp only [Act.put, List.setIfInBounds_toArray, List.set_cons_zero, List.set_cons_succ])
 go_loopg [6, 7] k (fun kq v6 v7 w' => ∃ (x6_1 : List (S35)) (x7_1 : Int), v7 = .int .i64 x7_1 ∧ Aside0 (awardingbodylaw01_RatioSumsAnyOrder.l0 kq t652 t656 x6_1 x7_1 = some r) ∧ Aside0 (kq ≤ k) ∧ Aside0 (Kd.R k35 35 w' w.heap.size (fun k_ => some k_ ≠ (v6 : Value).ownBlock) (.slice Ao7 t652.length co7) t652) ∧ Aside0 (Kd.R (Kd.int .i64) 3 w' w.heap.size (fun _ => True) v657 t656) ∧ Aside0 (Kd.R k35 35 w' w.heap.size (fun k_ => some k_ ≠ ((.slice Ao7 t652.length co7) : Value).ownBlock) v6 x6_1) ∧ Aside0 (Below w.heap.size w w'))
 case atStart => exact ⟨(([] : List (S35))), (0), (by first | rfl | (simp; done) | (simp [*]; done)), H', ⟨Nat.le_refl _⟩, ⟨by (with_reducible repeat (first | apply Kd.R_alloc | apply Kd.R_drewN | apply Kd.R_drew)); exact Kd.R_mono HO654.out (fun _ hk => (by simp [Value.ownBlock]))⟩, ⟨by (with_reducible repeat (first | apply Kd.R_alloc | apply Kd.R_drewN | apply Kd.R_drew)); exact HO658.out⟩, ⟨by first | exact Kd.R_nil _ _ _ _ _ | exact Kd.N_nil _ _ _ _ _ | exact Kd.V_nil _ _ _ _ _ | exact Kd.Q_nil _ _ _ _ _ | exact Kd.S_nil _ _ _ _ _⟩, ⟨by repeat (first | (with_reducible first | exact HB.out | apply below_alloc | apply pw_below_drewN | apply below_drew1 | refine below_set ?_ (IsS53.ge HI651.out)) | exact HB.out)⟩⟩
 case round =>
  clear H'; (try clear c1); (try clear p2); (try clear c3); obtain ⟨x6_1, x7_1, rfl, HA, HK1, HO_4, HO_5, HO_6, HB⟩ := hrel
  cases gk with
  | zero => exact absurd HA.out (by simp [awardingbodylaw01_RatioSumsAnyOrder.l0])
  | succ k1 =>
   have H := HA.out; clear HA; simp only [awardingbodylaw01_RatioSumsAnyOrder.l0] at H
   by_cases c9 : x7_1 < (t656.length : Int)
   ·rw [if_pos c9] at H; have c9b0 : decide (x7_1 < (t656.length : Int)) = true := decide_eq_true c9; clear c9
    by_cases c10 : 0 ≤ x7_1
    ·rw [if_pos c10] at H; have c10b0 : decide (0 ≤ x7_1) = true := decide_eq_true c10; clear c10
     by_cases c11 : 0 ≤ (rd t656 x7_1)
     ·rw [if_pos c11] at H; have c11b0 : decide (0 ≤ (rd t656 x7_1)) = true := decide_eq_true c11; clear c11
      by_cases c12 : (rd t656 x7_1) < (t652.length : Int)
      ·rw [if_pos c12] at H; have c12b0 : decide ((rd t656 x7_1) < (t652.length : Int)) = true := decide_eq_true c12; clear c12
       by_cases c13 : x6_1.length < 8796093022208
       ·rw [if_pos c13] at H; have LMc13 := Aside0.mk c13; clear c13; obtain ⟨y662, hy662⟩ : ∃ y_ : List (S35), y_ = (x6_1 ++ [(⟨(rd_T35 t652 (rd t656 x7_1)).f0, (rd_T35 t652 (rd t656 x7_1)).f1⟩ : S35)]) := ⟨_, rfl⟩; (replace H : (awardingbodylaw01_RatioSumsAnyOrder.l0 k1 t652 t656 y662 (wrap64 (x7_1 + 1))) = some r := by first | (rw [hy662]; with_reducible exact H) | (have H2_ := (Option.bind_some _ _).symm.trans H; rw [hy662]; with_reducible exact H2_) | (have H2_ := (Option.bind_some _ _).symm.trans H; with_reducible exact H2_) | with_reducible exact H | (rw [hy662]; exact H) | exact H); have Ny662 := Aside0.mk hy662; clear hy662; have H' := Aside0.mk H; clear H; obtain ⟨Ao14, co14, eo14⟩ := Kd.R_slice HO_5.out; subst eo14; have p660 : 0 ≤ (x7_1 : Int) := of_decide_eq_true (by first | (with_reducible assumption) | assumption); have q660 : x7_1 < (t656.length : Int) := of_decide_eq_true (by first | (with_reducible assumption) | assumption); obtain ⟨ad660, e660, hx660_0⟩ := Kd.at_int (Kd.R_reads' HO_5.out).2.2 x7_1 p660 q660
        cases e660
        replace p660 := eq_true p660; replace q660 := eq_true q660; have p661 : 0 ≤ ((rd t656 x7_1) : Int) := of_decide_eq_true (by first | (with_reducible assumption) | assumption); have q661 : (rd t656 x7_1) < (t652.length : Int) := of_decide_eq_true (by first | (with_reducible assumption) | assumption); obtain ⟨ad661, e661, hx661_0, hx661_1⟩ := at_T35 (Kd.R_reads' HO_4.out).2.2 (rd t656 x7_1) p661 q661
        cases e661
        replace p661 := eq_true p661; replace q661 := eq_true q661; go_wp2_with (first | ((with_reducible refine gate_builtin (b := .append) (xs := #[.tmp 26, .tmp 34]) rfl ?_); at_builtin; refine Kd.R_append k35 (w0 := w) w.heap.size rfl (.tmp 26) (.tmp 34) 46 35 (.agg #[(.int .i64 0), (.int .i64 0)]) 16 rfl Try.underlying46 info35 rfl (by decide) (by omega) u6 x6_1 (⟨(rd_T35 t652 (rd t656 x7_1)).f0, (rd_T35 t652 (rd t656 x7_1)).f1⟩ : S35) [.int .i64 ((rd_T35 t652 (rd t656 x7_1)).f0), .int .i64 ((rd_T35 t652 (rd t656 x7_1)).f1)] (fun k_ => some k_ ≠ (.slice (some ad661) t652.length co7 : Value).ownBlock) (fun _ => False) rfl rfl ?aP (fun _ hk => hk.elim) ?aF ?aO ?aB ?aS ?aL ?_; (case aP => exact k35_mkM _ _ _ (⟨(rd_T35 t652 (rd t656 x7_1)).f0, (rd_T35 t652 (rd t656 x7_1)).f1⟩ : S35)); (case aB => exact (bw HB)); (case aF => exact (fun k_ hk => Kd.fresh' (Kd.R_lt (by (with_reducible repeat (first | apply Kd.R_alloc | apply Kd.R_drewN | apply Kd.R_drew)); exact HO_4.out)) k_ hk)); (case aO => exact (by (with_reducible repeat (first | apply Kd.R_alloc | apply Kd.R_drewN | apply Kd.R_drew)); exact HO_6.out)); (case aS => exact (below_size (bw HB))); (case aL => have := LMc13.out; omega); intro v663 w15 ho hb hg hat; rw [← Ny662.out] at ho; have HO664 := Aside0.mk (ho); replace HO_4 := Aside0.mk (Kd.R_after (ok := (fun _ => True)) (by (with_reducible repeat (first | apply Kd.R_alloc | apply Kd.R_drewN | apply Kd.R_drew)); exact Kd.R_mono HO_4.out (fun _ hk => ⟨trivial, hk⟩)) hg hat); replace HO_5 := Aside0.mk (Kd.R_over' (by (with_reducible repeat (first | apply Kd.R_alloc | apply Kd.R_drewN | apply Kd.R_drew)); exact HO_5.out) (Kd.R_typed (by (with_reducible repeat (first | apply Kd.R_alloc | apply Kd.R_drewN | apply Kd.R_drew)); exact HO_6.out)) (by decide) hg); replace HB := Aside0.mk (hb); clear HO_6; clear ho hb hg hat))
        go_roundg k1
        case measure => have := HK1.out; omega
        case rel => exact ⟨(y662), (wrap64 (x7_1 + 1)), (by first | rfl | (simp; done) | (simp [*]; done)), H', ⟨by have := HK1.out; omega⟩, ⟨by (with_reducible repeat (first | apply Kd.R_alloc | apply Kd.R_drewN | apply Kd.R_drew)); exact Kd.R_mono HO_4.out (fun _ hk => hk.2)⟩, ⟨by (with_reducible repeat (first | apply Kd.R_alloc | apply Kd.R_drewN | apply Kd.R_drew)); exact HO_5.out⟩, ⟨by (with_reducible repeat (first | apply Kd.R_alloc | apply Kd.R_drewN | apply Kd.R_drew)); exact HO664.out⟩, ⟨bw HB⟩⟩
       ·rw [if_neg c13] at H; exact absurd H (by simp)
      ·rw [if_neg c12] at H; exact absurd H (by simp)
     ·rw [if_neg c11] at H; exact absurd H (by simp)
    ·rw [if_neg c10] at H; exact absurd H (by simp)
   ·rw [if_neg c9] at H; have c9b0 : decide (x7_1 < (t656.length : Int)) = false := decide_eq_false c9; clear c9; replace H := Option.bind_eq_some_iff.mp H; obtain ⟨⟨t665, t666, t667⟩, A160, H⟩ := H; (try dsimp only at H); have A16 := Aside0.mk A160; clear A160; replace H := Option.bind_eq_some_iff.mp H; obtain ⟨⟨t669, t670, t671⟩, A170, H⟩ := H; (try dsimp only at H); have A17 := Aside0.mk A170; clear A170; have HC18 := Aside0.mk H; clear H; obtain ⟨Ao19, co19, eo19⟩ := Kd.R_slice HO_5.out; subst eo19
    go_upto_region 11 with (first | ((with_reducible refine gate_callee (f := 36) rfl ?_); refine gl (some 38) Try.func36 #[.slice Ao7 t652.length co7] ?_; (with_reducible refine (ratio_Sum.calls k1 _ _ t652 t665 t666 t667 _ ?side1 ?side2 A16.out).mono ?_); (case side1 => repeat (first | exact (Kd.R_reads' HO_4.out).2.2 | (with_reducible refine Kd.C_alloc ?_ _) | (with_reducible refine Kd.C_drewN ?_ _) | (with_reducible refine Kd.C_drew ?_))); (case side2 => exact (Kd.R_reads' HO_4.out).2.1); rintro e w20 ⟨rfl, hb⟩; refine ⟨_, rfl, ?_⟩; replace HO_4 := Aside0.mk (Kd.R_below (by (with_reducible repeat (first | apply Kd.R_alloc | apply Kd.R_drewN | apply Kd.R_drew)); exact HO_4.out) hb); replace HO_5 := Aside0.mk (Kd.R_below (by (with_reducible repeat (first | apply Kd.R_alloc | apply Kd.R_drewN | apply Kd.R_drew)); exact HO_5.out) hb); replace HO_6 := Aside0.mk (Kd.R_below (by (with_reducible repeat (first | apply Kd.R_alloc | apply Kd.R_drewN | apply Kd.R_drew)); exact HO_6.out) hb); replace HB := wb HB hb; (try clear hb); (try clear hb2); (try clear hk); (try clear hi)) | ((with_reducible refine gate_dst (N := 8) rfl ?_); refine bx (N := 8) (cs := #[.int .i64 0, .int .i64 0]) (t := 35) ?_; intro gb668 hg w21 hbox hb; have BK668 := Aside0.mk (hbox); have GW668 := gs HB hg; have GE668 := gs HB hg; replace HO_4 := Aside0.mk (Kd.R_below (Kd.R_elderB (by (with_reducible repeat (first | apply Kd.R_alloc | apply Kd.R_drewN | apply Kd.R_drew)); exact HO_4.out) gb668 (Nat.le_of_eq hg.symm)) hb); replace HO_5 := Aside0.mk (Kd.R_below (by (with_reducible repeat (first | apply Kd.R_alloc | apply Kd.R_drewN | apply Kd.R_drew)); exact HO_5.out) hb); replace HO_6 := Aside0.mk (Kd.R_below (Kd.R_elderB (by (with_reducible repeat (first | apply Kd.R_alloc | apply Kd.R_drewN | apply Kd.R_drew)); exact HO_6.out) gb668 (Nat.le_of_eq hg.symm)) hb); replace HB := wb HB hb; clear hb hbox hg; have hcz22_0 : w21.cell? ⟨gb668, 0, none⟩ = some (.int .i64 0) := bc BK668 0; have hcz22_1 : w21.cell? ⟨gb668, 1, none⟩ = some (.int .i64 0) := bc BK668 1; have hfz22_0 := blk_frozen BK668.out 0; have hfz22_1 := blk_frozen BK668.out 1; obtain ⟨Ao23, co23, eo23⟩ := Kd.R_slice HO_6.out; subst eo23) | ((with_reducible refine gate_callee (f := 36) rfl ?_); refine gl (some 43) Try.func36 #[.slice Ao23 x6_1.length co23] ?_; (with_reducible refine (ratio_Sum.calls k1 _ _ x6_1 t669 t670 t671 _ ?side1 ?side2 A17.out).mono ?_); (case side1 => refine (Kd.R_reads' (e := 35) (base := w.heap.size) (ok := fun k_ => (some k_ ≠ (.slice Ao7 t652.length co7 : Value).ownBlock ∧ k_ ≠ gb668)) (n := x6_1.length) (c := co23) ?_).2.2; exact (by (with_reducible repeat (first | apply Kd.R_alloc | apply Kd.R_drewN | apply Kd.R_drew)); exact (Kd.R_mono (Kd.R_far (p := ⟨gb668, 1, none⟩) (Kd.R_far (p := ⟨gb668, 0, none⟩) (Kd.R_mono HO_6.out (fun k_ hk => (⟨hk, hk.2⟩ : _ ∧ k_ ≠ gb668))) (fun _ hk => hk.2) (.int .i64 t665)) (fun _ hk => hk.2) (.int .i64 t666)) (fun _ h_ => h_.1)))); (case side2 => exact (Kd.R_reads' HO_6.out).2.1); rintro e w24 ⟨rfl, hb⟩; refine ⟨_, rfl, ?_⟩; replace HO_4 := Aside0.mk (Kd.R_below (by (with_reducible repeat (first | apply Kd.R_alloc | apply Kd.R_drewN | apply Kd.R_drew)); exact (Kd.R_mono (Kd.R_far (p := ⟨gb668, 1, none⟩) (Kd.R_far (p := ⟨gb668, 0, none⟩) (Kd.R_mono HO_4.out (fun k_ hk => (⟨hk, hk.2⟩ : _ ∧ k_ ≠ gb668))) (fun _ hk => hk.2) (.int .i64 t665)) (fun _ hk => hk.2) (.int .i64 t666)) (fun _ h_ => h_.1))) hb); replace HO_5 := Aside0.mk (Kd.R_below (by (with_reducible repeat (first | apply Kd.R_alloc | apply Kd.R_drewN | apply Kd.R_drew)); exact (Kd.R_mono (Kd.R_far (p := ⟨gb668, 1, none⟩) (Kd.R_far (p := ⟨gb668, 0, none⟩) (Kd.R_types HO_5.out BK668.out (by decide)) (fun _ hk => hk.2) (.int .i64 t665)) (fun _ hk => hk.2) (.int .i64 t666)) (fun _ h_ => h_.1))) hb); replace HO_6 := Aside0.mk (Kd.R_below (by (with_reducible repeat (first | apply Kd.R_alloc | apply Kd.R_drewN | apply Kd.R_drew)); exact (Kd.R_mono (Kd.R_far (p := ⟨gb668, 1, none⟩) (Kd.R_far (p := ⟨gb668, 0, none⟩) (Kd.R_mono HO_6.out (fun k_ hk => (⟨hk, hk.2⟩ : _ ∧ k_ ≠ gb668))) (fun _ hk => hk.2) (.int .i64 t665)) (fun _ hk => hk.2) (.int .i64 t666)) (fun _ h_ => h_.1))) hb); replace BK668 := Aside0.mk (blk_below (g := gb668) (o := .cells #[.int .i64 t665, .int .i64 t666] 35 (0, 0)) (by refine pe ?_; refine blk_put (cs := #[.int .i64 t665, .int .i64 0]) ?_ 1 _ rfl; refine pe ?_; refine blk_put (cs := #[.int .i64 0, .int .i64 0]) ?_ 0 _ rfl; refine pe ?_; exact BK668.out) hb); replace HB := wb HB hb; (try clear hb); (try clear hb2); (try clear hk); (try clear hi)) | ((with_reducible refine gate_dst (N := 10) rfl ?_); refine bx (N := 10) (cs := #[.int .i64 0, .int .i64 0]) (t := 35) ?_; intro gb672 hg w25 hbox hb; have BK672 := Aside0.mk (hbox); have GW672 := gs HB hg; have GE672 := gs HB hg; have NB668_672 := nl BK668 hg; have NB672_668 := nr BK668 hg; replace HO_4 := Aside0.mk (Kd.R_below (Kd.R_elderB (by (with_reducible repeat (first | apply Kd.R_alloc | apply Kd.R_drewN | apply Kd.R_drew)); exact HO_4.out) gb672 (Nat.le_of_eq hg.symm)) hb); replace HO_5 := Aside0.mk (Kd.R_below (by (with_reducible repeat (first | apply Kd.R_alloc | apply Kd.R_drewN | apply Kd.R_drew)); exact HO_5.out) hb); replace HO_6 := Aside0.mk (Kd.R_below (Kd.R_elderB (by (with_reducible repeat (first | apply Kd.R_alloc | apply Kd.R_drewN | apply Kd.R_drew)); exact HO_6.out) gb672 (Nat.le_of_eq hg.symm)) hb); replace BK668 := kb BK668 hb; replace HB := wb HB hb; clear hb hbox hg; obtain ⟨hnb26, hnc26⟩ := n2 NB672_668; have hcz27_0 : w25.cell? ⟨gb672, 0, none⟩ = some (.int .i64 0) := bc BK672 0; have hcz27_1 : w25.cell? ⟨gb672, 1, none⟩ = some (.int .i64 0) := bc BK672 1; have hfz27_0 := blk_frozen BK672.out 0; have hfz27_1 := blk_frozen BK672.out 1))
    (try simp only [Act.put, List.setIfInBounds_toArray, List.set_cons_zero, List.set_cons_succ]); have H := HC18.out; clear HC18
    by_cases c28 : (t665 == t669 && (t666 == t670)) = true
    ·rw [if_pos c28] at H; have c28b0 : (t665 == t669 && (t666 == t670)) = true := c28; (try (have c28b1 : decide (t665 = t669 && (t666 == t670)) = true := by simpa using c28)); (try (have c28b2 : (t665 == t669 && (t666 == t670)) = true := by simpa using c28)); clear c28
     (first | rw [c28b0] | (simp only [i64_w, i32_w]; rw [c28b0]) | skip)
     by_cases c29 : t667 = t671
     ·rw [if_pos c29] at H; have c29b0 : (t667 == t671) = true := beq_iff_eq.mpr c29; have c29b1 : (t667 != t671) = false := bne_eq_false_iff_eq.mpr c29; clear c29; replace H := Option.bind_eq_some_iff.mp H; obtain ⟨t673, A300, H⟩ := H; (try dsimp only at H); have A30 := Aside0.mk A300; clear A300; obtain rfl := Option.some.inj H; obtain ⟨hnb31, hnc31⟩ := n2 NB668_672; have hcz32_0 : w25.cell? ⟨gb668, 0, none⟩ = some (.int .i64 t665) := bc BK668 0; have hcz32_1 : w25.cell? ⟨gb668, 1, none⟩ = some (.int .i64 t666) := bc BK668 1; have hfz32_0 := blk_frozen BK668.out 0; have hfz32_1 := blk_frozen BK668.out 1; have hcz33_0 : w25.cell? ⟨gb672, 0, none⟩ = some (.int .i64 0) := bc BK672 0; have hcz33_1 : w25.cell? ⟨gb672, 1, none⟩ = some (.int .i64 0) := bc BK672 1; have hfz33_0 := blk_frozen BK672.out 0; have hfz33_1 := blk_frozen BK672.out 1; (go_wp2_with (first | (go_at_call 18; (with_reducible refine (awardingbodylaw01_awake.calls k1  t673 _ A30.out).mono ?_); rintro e w34 ⟨rfl, hb⟩; replace HO_4 := Aside0.mk (Kd.R_below (by (with_reducible repeat (first | apply Kd.R_alloc | apply Kd.R_drewN | apply Kd.R_drew)); exact (Kd.R_mono (Kd.R_far (p := ⟨gb672, 1, none⟩) (Kd.R_far (p := ⟨gb672, 0, none⟩) (Kd.R_mono HO_4.out (fun k_ hk => (⟨hk, hk.2⟩ : _ ∧ k_ ≠ gb672))) (fun _ hk => hk.2) (.int .i64 t669)) (fun _ hk => hk.2) (.int .i64 t670)) (fun _ h_ => h_.1))) hb); replace HO_5 := Aside0.mk (Kd.R_below (by (with_reducible repeat (first | apply Kd.R_alloc | apply Kd.R_drewN | apply Kd.R_drew)); exact (Kd.R_mono (Kd.R_far (p := ⟨gb672, 1, none⟩) (Kd.R_far (p := ⟨gb672, 0, none⟩) (Kd.R_types HO_5.out BK672.out (by decide)) (fun _ hk => hk.2) (.int .i64 t669)) (fun _ hk => hk.2) (.int .i64 t670)) (fun _ h_ => h_.1))) hb); replace HO_6 := Aside0.mk (Kd.R_below (by (with_reducible repeat (first | apply Kd.R_alloc | apply Kd.R_drewN | apply Kd.R_drew)); exact (Kd.R_mono (Kd.R_far (p := ⟨gb672, 1, none⟩) (Kd.R_far (p := ⟨gb672, 0, none⟩) (Kd.R_mono HO_6.out (fun k_ hk => (⟨hk, hk.2⟩ : _ ∧ k_ ≠ gb672))) (fun _ hk => hk.2) (.int .i64 t669)) (fun _ hk => hk.2) (.int .i64 t670)) (fun _ h_ => h_.1))) hb); replace BK668 := kb BK668 hb; replace BK672 := Aside0.mk (blk_below (g := gb672) (o := .cells #[.int .i64 t669, .int .i64 t670] 35 (0, 0)) (by refine pe ?_; refine blk_put (cs := #[.int .i64 t669, .int .i64 0]) ?_ 1 _ rfl; refine pe ?_; refine blk_put (cs := #[.int .i64 0, .int .i64 0]) ?_ 0 _ rfl; refine pe ?_; exact BK672.out) hb); replace HB := wb HB hb; (try clear hb); (try clear hb2); (try clear hk); (try clear hi)))); (go_ret); exact ⟨by first | rfl | (simp [errW_none, errW_some] <;> rfl) | (simp [*, errW_none, errW_some] <;> rfl), bw HB⟩
     ·rw [if_neg c29] at H; have c29b0 : (t667 == t671) = false := beq_eq_false_iff_ne.mpr c29; have c29b1 : (t667 != t671) = true := bne_iff_ne.mpr c29; obtain rfl := Option.some.inj H; obtain ⟨hnb35, hnc35⟩ := n2 NB668_672; have hcz36_0 : w25.cell? ⟨gb668, 0, none⟩ = some (.int .i64 t665) := bc BK668 0; have hcz36_1 : w25.cell? ⟨gb668, 1, none⟩ = some (.int .i64 t666) := bc BK668 1; have hfz36_0 := blk_frozen BK668.out 0; have hfz36_1 := blk_frozen BK668.out 1; have hcz37_0 : w25.cell? ⟨gb672, 0, none⟩ = some (.int .i64 0) := bc BK672 0; have hcz37_1 : w25.cell? ⟨gb672, 1, none⟩ = some (.int .i64 0) := bc BK672 1; have hfz37_0 := blk_frozen BK672.out 0; have hfz37_1 := blk_frozen BK672.out 1; (go_wp2); (go_ret); exact ⟨by first | rfl | (simp [errW_none, errW_some] <;> rfl) | (simp [*, errW_none, errW_some] <;> rfl), bw HB⟩
    ·rw [if_neg c28] at H; (have c28b0 : (t665 == t669 && (t666 == t670)) = false := by simpa using c28); (try (have c28b1 : decide (t665 = t669 && (t666 == t670)) = false := by simpa using c28)); (try (have c28b2 : (t665 == t669 && (t666 == t670)) = false := by simpa using c28)); (try (have c28b3 : ¬ (t665 = t669 && (t666 == t670)) := by simpa using c28)); clear c28
     (first | rw [c28b0] | (simp only [i64_w, i32_w]; rw [c28b0]) | skip)
     obtain rfl := Option.some.inj H; obtain ⟨hnb38, hnc38⟩ := n2 NB668_672; have hcz39_0 : w25.cell? ⟨gb668, 0, none⟩ = some (.int .i64 t665) := bc BK668 0; have hcz39_1 : w25.cell? ⟨gb668, 1, none⟩ = some (.int .i64 t666) := bc BK668 1; have hfz39_0 := blk_frozen BK668.out 0; have hfz39_1 := blk_frozen BK668.out 1; have hcz40_0 : w25.cell? ⟨gb672, 0, none⟩ = some (.int .i64 0) := bc BK672 0; have hcz40_1 : w25.cell? ⟨gb672, 1, none⟩ = some (.int .i64 0) := bc BK672 1; have hfz40_0 := blk_frozen BK672.out 0; have hfz40_1 := blk_frozen BK672.out 1; (go_wp2); (go_ret); exact ⟨by first | rfl | (simp [errW_none, errW_some] <;> rfl) | (simp [*, errW_none, errW_some] <;> rfl), bw HB⟩

/-- THE ONE PURE STATEMENT of awardingbodylaw01_RatioSumsAnyOrder: yours. -/
def awardingbodylaw01_RatioSumsAnyOrder.Pure : Prop := ∀ (l0 : List Int), l0.length ≤ maxLen → l0.length * 8 ≤ 140737488351232 → (∀ x ∈ l0, (Lit.int .i64 x).wf = true) → ∃ k, awardingbodylaw01_RatioSumsAnyOrder.f k l0 = some true
theorem awardingbodylaw01_RatioSumsAnyOrder.walk (P : awardingbodylaw01_RatioSumsAnyOrder.Pure) (a0 : Option Addr) (len0 cap0 : Nat) (z0 : List Int) (w : World) (w0 : (a0 = none ∧ len0 = 0 ∧ cap0 = 0 ∧ z0 = []) ∨ ∃ x, a0 = some x ∧ len0 ≤ cap0 ∧ cap0 ≤ maxLen ∧ z0.length = cap0 ∧ (∀ i, i < z0.length → w.cell? (x.add i) = some (.int .i64 (z0.getD i 0))) ∧ ∀ n ∈ z0, (Lit.int .i64 n).wf = true) (y0 : len0 * 8 ≤ 140737488351232) :
  Calls Try.prog 10 #[.slice a0 len0 cap0] w fun e w' => e = .returned (.bool true) ∧ Below w.heap.size w w' := by
 obtain ⟨l0, rfl, hr0, hm0, hw0, hc0⟩ := ReadsInt.ofRowC w0; obtain ⟨k, h⟩ := P l0 hm0 y0 hw0; refine (awardingbodylaw01_RatioSumsAnyOrder.calls k _ _ l0 true w (Kd.C_of_reads (d := (0 : Int)) (h1 := fun _ => rfl) hr0) hc0 h).mono ?_; rintro e w' ⟨rfl, hd⟩; exact ⟨rfl, hd⟩

end Go.Proofs.Ytcbohbeipgcfhaa.G

/- Plain arithmetic, proved for all natural numbers in the stated bounds: division of a number of two digits by schoolbook quotient digits (Knuth's step), and long division bit by bit. -/
namespace Go.Proofs.Ytcbohbeipgcfhaa.Mth

/-- What the loop of a quotient digit keeps: u = q v1 + r, q not below the true digit, q small. -/
structure Kn (v1 v0 u d q r : Nat) : Prop where
  e : u = q * v1 + r
  ge : (u * 4294967296 + d) / (v1 * 4294967296 + v0) ≤ q
  le : q ≤ 4294967296 + 1
  v1lo : 2147483648 ≤ v1
  v1hi : v1 < 4294967296
  v0hi : v0 < 4294967296
  uhi : u < v1 * 4294967296 + v0
  dhi : d < 4294967296

theorem Kn.start {v1 v0 u d : Nat} (v1lo : 2147483648 ≤ v1) (v1hi : v1 < 4294967296) (v0hi : v0 < 4294967296) (uhi : u < v1 * 4294967296 + v0) (dhi : d < 4294967296) :
    Kn v1 v0 u d (u / v1) (u % v1) := by
  refine ⟨?_, ?_, ?_, v1lo, v1hi, v0hi, uhi, dhi⟩
  · rw [Nat.mul_comm]; exact (Nat.div_add_mod u v1).symm
  · -- Q ≤ u / v1
    (have hv : 0 < v1 := by omega); rw [Nat.le_div_iff_mul_le hv]; have h1 : (u * 4294967296 + d) / (v1 * 4294967296 + v0) * (v1 * 4294967296 + v0) ≤ u * 4294967296 + d := Nat.div_mul_le_self _ _; (generalize (u * 4294967296 + d) / (v1 * 4294967296 + v0) = Q at *); (have h2 : Q * (v1 * 4294967296 + v0) = Q * v1 * 4294967296 + Q * v0 := by rw [Nat.mul_add, Nat.mul_assoc]); rw [h2] at h1
    have : Q * v1 * 4294967296 < (u + 1) * 4294967296 := by
      have : (u + 1) * 4294967296 = u * 4294967296 + 4294967296 := Nat.succ_mul _ _; omega
    have := Nat.lt_of_mul_lt_mul_right this; omega
  · have hv : 0 < v1 := by omega
    have : u / v1 < 4294967296 + 2 := by
      rw [Nat.div_lt_iff_lt_mul hv]; (have : (4294967296 + 2) * v1 = v1 * 4294967296 + 2 * v1 := by rw [Nat.add_mul, Nat.mul_comm]); omega
    omega

theorem Kn.q_lt {v1 v0 u d q r : Nat} (h : Kn v1 v0 u d q r) : (u * 4294967296 + d) / (v1 * 4294967296 + v0) < 4294967296 := by
  (have hv : 0 < v1 * 4294967296 + v0 := by have := h.uhi; omega); rw [Nat.div_lt_iff_lt_mul hv]; have h1 : (u + 1) * 4294967296 ≤ (v1 * 4294967296 + v0) * 4294967296 := Nat.mul_le_mul_right _ h.uhi; have h2 : (u + 1) * 4294967296 = u * 4294967296 + 4294967296 := Nat.succ_mul _ _; have := h.dhi; omega

theorem Kn.qv {v1 v0 u d q r : Nat} (h : Kn v1 v0 u d q r) : q * (v1 * 4294967296 + v0) = u * 4294967296 - r * 4294967296 + q * v0 ∧ r * 4294967296 ≤ u * 4294967296 := by
  (have h2 : q * (v1 * 4294967296 + v0) = q * v1 * 4294967296 + q * v0 := by rw [Nat.mul_add, Nat.mul_assoc]); (have h3 : u * 4294967296 = q * v1 * 4294967296 + r * 4294967296 := by rw [h.e, Nat.add_mul]); omega

/-- the digit is too great -/
theorem Kn.next {v1 v0 u d q r : Nat} (h : Kn v1 v0 u d q r) (ht : 4294967296 ≤ q ∨ 4294967296 * r + d < q * v0) : 1 ≤ q ∧ Kn v1 v0 u d (q - 1) (r + v1) := by
  have hlt : (u * 4294967296 + d) / (v1 * 4294967296 + v0) < q := by
    rcases ht with ht | ht
    · exact Nat.lt_of_lt_of_le h.q_lt ht
    · have hv : 0 < v1 * 4294967296 + v0 := by have := h.uhi; omega
      rw [Nat.div_lt_iff_lt_mul hv]; have := h.qv; omega
  have hq : 1 ≤ q := Nat.lt_of_le_of_lt (Nat.zero_le _) hlt; refine ⟨hq, ?_, by omega, by have := h.le; omega, h.v1lo, h.v1hi, h.v0hi, h.uhi, h.dhi⟩; have := h.e; obtain ⟨q', rfl⟩ : ∃ q', q = q' + 1 := ⟨q - 1, by omega⟩; rw [Nat.add_sub_cancel]; rw [Nat.succ_mul] at this; omega

theorem Kn.done {v1 v0 u d q r : Nat} (h : Kn v1 v0 u d q r) (ht : q * v0 ≤ 4294967296 * r + d) : q = (u * 4294967296 + d) / (v1 * 4294967296 + v0) := by
  have hv : 0 < v1 * 4294967296 + v0 := by have := h.uhi; omega
  have : q ≤ (u * 4294967296 + d) / (v1 * 4294967296 + v0) := by
    rw [Nat.le_div_iff_mul_le hv]; have := h.qv; omega
  have := h.ge; omega

theorem Kn.qv0 {v1 v0 u d q r : Nat} (h : Kn v1 v0 u d q r) : q * v0 < 18446744073709551616 := by
  have h1 : q * v0 ≤ (4294967296 + 1) * (4294967296 - 1) := Nat.mul_le_mul h.le (by have := h.v0hi; omega); omega

theorem Kn.brk {v1 v0 u d q r : Nat} (h : Kn v1 v0 u d q r) (hr : 4294967296 ≤ r) : q * v0 ≤ 4294967296 * r + d := by
  have h1 : q * v0 ≤ (4294967296 + 1) * (4294967296 - 1) := Nat.mul_le_mul h.le (by have := h.v0hi; omega); have h2 : 4294967296 * 4294967296 ≤ 4294967296 * r := Nat.mul_le_mul_left _ hr; omega

theorem digits_two' (B : Nat) {V u d1 d0 q1 m : Nat} (hV : 0 < V) (e : V * q1 + m = u * B + d1) :
    (u * (B * B) + (d1 * B + d0)) / V = q1 * B + (m * B + d0) / V ∧ (u * (B * B) + (d1 * B + d0)) % V = (m * B + d0) % V := by
  have e2 : u * (B * B) + (d1 * B + d0) = V * (q1 * B) + (m * B + d0) := by
    (have : (V * q1 + m) * B = (u * B + d1) * B := by rw [e]); rw [Nat.add_mul, Nat.add_mul, Nat.mul_assoc, Nat.mul_assoc] at this; omega
  refine ⟨?_, ?_⟩
  · rw [e2, Nat.mul_add_div hV]
  · rw [e2, Nat.mul_add_mod]
/-- The two digits together. -/
theorem digits_two {V u d1 d0 q1 m : Nat} (hV : 0 < V) (e : V * q1 + m = u * 4294967296 + d1) :
    (u * 18446744073709551616 + (d1 * 4294967296 + d0)) / V = q1 * 4294967296 + (m * 4294967296 + d0) / V ∧ (u * 18446744073709551616 + (d1 * 4294967296 + d0)) % V = (m * 4294967296 + d0) % V :=
  digits_two' 4294967296 hV e

/-- Scaling by s. -/
theorem unscale {N y s q r : Nat} (hq : q = (N * 2 ^ s) / (y * 2 ^ s)) (hr : r = (N * 2 ^ s) % (y * 2 ^ s)) : q = N / y ∧ r / 2 ^ s = N % y := by
  have hs : 0 < 2 ^ s := Nat.pow_pos (by decide); rw [Nat.mul_div_mul_right _ _ hs] at hq; rw [Nat.mul_mod_mul_right] at hr; rw [hr, Nat.mul_div_cancel _ hs]; exact ⟨hq, rfl⟩
end Go.Proofs.Ytcbohbeipgcfhaa.Mth

/- math/bits.Div64 and Rem64 as the printed functions compute them: quotient and remainder of a number of 128 bits, for a divisor greater than the upper half (Div64) and for each divisor that is not 0 (Rem64). -/
namespace Go.Proofs.Ytcbohbeipgcfhaa.Mth
open Go.RowKit Go.Proofs.Ytcbohbeipgcfhaa.G Go.Proofs.Ytcbohbeipgcfhaa.Given Go.Proofs.YtcbohbeipgcfhaaW.PrintWords Go.Proofs.YtcbohbeipgcfhaaW.PrintLast Go.Proofs.YtcbohbeipgcfhaaW.PrintMore
set_option linter.unusedVariables false

theorem wu (n : Int) : IntKind.u64.wrap n = n % 18446744073709551616 := IntKind.wrap_u64 n
theorem evk {α : Type} {g : Nat → Option α} {f : Nat → Option α} {r : α} (h : ∀ k, g (k + 1) = f k) (k : Ev f r) : Ev g r := Ev.step h k
theorem ev_some {α : Type} {g : Nat → Option α} {r : α} (h : ∀ k, g (k + 1) = some r) : Ev g r := Ev.step h (Ev.now r)

/-- What the second digit's loop ends in. -/
theorem fin_val {V s v1 v0 d q1 r u q : Nat} (hV : V = v1 * 4294967296 + v0) (hK : Kn v1 v0 u d q r) (hq1 : q1 < 4294967296) (hs : s ≤ 64) (hq : q = (u * 4294967296 + d) / V) :
    (some (IntKind.u64.wrap ((IntKind.u64.wrap ((q1 : Int) * 4294967296)) + (q : Int)), shr .u64 (IntKind.u64.wrap ((IntKind.u64.wrap ((IntKind.u64.wrap ((u : Int) * 4294967296)) + (d : Int))) - (IntKind.u64.wrap ((q : Int) * (V : Int))))) (s : Int)) : Option (Int × Int))
      = some (((q1 * 4294967296 + q : Nat) : Int), (((u * 4294967296 + d) % V / 2 ^ s : Nat) : Int)) := by
  have hlt := hK.q_lt; rw [← hV, ← hq] at hlt; (have hVp : 0 < V := by have := hK.uhi; omega); have hm : (u * 4294967296 + d) % V < V := Nat.mod_lt _ hVp; have he := Nat.div_add_mod (u * 4294967296 + d) V; rw [← hq] at he; have hc := Nat.mul_comm V q; have hv1 := hK.v1hi; have hv0 := hK.v0hi
  have e1 : IntKind.u64.wrap ((IntKind.u64.wrap ((q1 : Int) * 4294967296)) + (q : Int)) = ((q1 * 4294967296 + q : Nat) : Int) := by
    simp only [wu]; omega
  have e2 : IntKind.u64.wrap ((IntKind.u64.wrap ((IntKind.u64.wrap ((u : Int) * 4294967296)) + (d : Int))) - (IntKind.u64.wrap ((q : Int) * (V : Int)))) = (((u * 4294967296 + d) % V : Nat) : Int) := by
    have e3 : (q : Int) * (V : Int) = ((q * V : Nat) : Int) := (Int.natCast_mul q V).symm; rw [e3]; (generalize (u * 4294967296 + d) % V = m at *); (generalize q * V = P at *); simp only [wu]; omega
  rw [e1, e2]; unfold shr; rw [show min (s : Int).toNat IntKind.u64.bits = s from by simp [IntKind.bits]; omega]; rfl

theorem l1_ev {V s v1 v0 d q1 u : Nat} (hV : V = v1 * 4294967296 + v0) (hq1 : q1 < 4294967296) (hs : s ≤ 64) : ∀ q r, Kn v1 v0 u d q r → r < 4294967296 →
    Ev (fun k => bits_Div64.l1 k V s v1 v0 d q1 r u q) (((q1 * 4294967296 + (u * 4294967296 + d) / V : Nat) : Int), (((u * 4294967296 + d) % V / 2 ^ s : Nat) : Int)) := by
  intro q
  induction q with
  | zero =>
    intro r hK hr; (have hd : 0 = (u * 4294967296 + d) / V := by rw [hV]; exact hK.done (by omega)); refine Ev.step (f := fun k => bits_Div64.j4 k V s v1 v0 d q1 r u (0 : Nat) false) (fun k => ?_) (ev_some (fun k => ?_))
    · simp only [bits_Div64.l1]
      rw [if_neg (by omega)]
      congr 1
      have := hK.dhi; simp only [wu, decide_eq_false_iff_not]; omega
    · simp only [bits_Div64.j4]
      rw [if_neg (by decide), if_pos (by omega)]; have := fin_val (s := s) hV hK hq1 hs hd; rw [← hd]; exact this
  | succ q ih =>
    intro r hK hr; have hv0 := hK.v0hi; have hd' := hK.dhi; have hP := hK.qv0; have hle := hK.le
    by_cases ht : 4294967296 ≤ q + 1 ∨ 4294967296 * r + d < (q + 1) * v0
    · have hj : ∀ k, bits_Div64.l1 (k + 1) V s v1 v0 d q1 r u (q + 1 : Nat) = bits_Div64.j4 k V s v1 v0 d q1 r u (q + 1 : Nat) true := by
        intro k; simp only [bits_Div64.l1]
        by_cases h1 : 4294967296 ≤ q + 1
        · rw [if_pos (by omega)]
        · rw [if_neg (by omega)]
          congr 1
          (have ht2 : 4294967296 * r + d < (q + 1) * v0 := by rcases ht with h | h; exact absurd h h1; exact h); rw [show ((q + 1 : Nat) : Int) * (v0 : Int) = (((q + 1) * v0 : Nat) : Int) from (Int.natCast_mul _ _).symm]; (generalize (q + 1) * v0 = P at *); simp only [wu, decide_eq_true_eq]; omega
      obtain ⟨_, hK'⟩ := hK.next ht; rw [Nat.add_sub_cancel] at hK'; have hv1 := hK.v1hi
      by_cases hb : 4294967296 ≤ r + v1
      · have hd := hK'.done (hK'.brk hb)
        rw [← hV] at hd; refine Ev.step hj (ev_some (fun k => ?_)); simp only [bits_Div64.j4]; rw [if_pos trivial, if_pos (by simp only [wu]; omega), if_pos (by omega)]; have := fin_val (s := s) hV hK' hq1 hs hd; rw [show IntKind.u64.wrap (((q + 1 : Nat) : Int) - 1) = (q : Int) from by simp only [wu]; omega]; rw [← hd]; exact this
      · refine Ev.step hj (Ev.step (fun k => ?_) (ih (r + v1) hK' (by omega)))
        simp only [bits_Div64.j4]; rw [if_pos trivial, if_neg (by simp only [wu]; omega)]; rw [show IntKind.u64.wrap (((q + 1 : Nat) : Int) - 1) = (q : Int) from by simp only [wu]; omega]; rw [show IntKind.u64.wrap ((r : Int) + (v1 : Int)) = ((r + v1 : Nat) : Int) from by simp only [wu]; omega]
    · have hn : (q + 1) * v0 ≤ 4294967296 * r + d := by omega
      have hd := hK.done hn; rw [← hV] at hd; refine Ev.step (f := fun k => bits_Div64.j4 k V s v1 v0 d q1 r u (q + 1 : Nat) false) (fun k => ?_) (ev_some (fun k => ?_))
      · simp only [bits_Div64.l1]
        rw [if_neg (by omega)]
        congr 1
        rw [show ((q + 1 : Nat) : Int) * (v0 : Int) = (((q + 1) * v0 : Nat) : Int) from (Int.natCast_mul _ _).symm]; (generalize (q + 1) * v0 = P at *); simp only [wu, decide_eq_false_iff_not]; omega
      · simp only [bits_Div64.j4]
        rw [if_neg (by decide), if_pos (by omega)]; have := fin_val (s := s) hV hK hq1 hs hd; rw [← hd]; exact this

theorem j2_ev' {V s v1 v0 d1 d0 q1 u m : Nat} (hV : V = v1 * 4294967296 + v0) (hs : s ≤ 64) (v1lo : 2147483648 ≤ v1) (v1hi : v1 < 4294967296) (v0hi : v0 < 4294967296) (d1hi : d1 < 4294967296) (d0hi : d0 < 4294967296) (uhi : u < V) (hq1 : q1 < 4294967296) (he : V * q1 + m = u * 4294967296 + d1) (hm : m < V) :
    Ev (fun k => bits_Div64.j2 k V s v1 v0 u d1 d0 q1) (((q1 * 4294967296 + (m * 4294967296 + d0) / V : Nat) : Int), (((m * 4294967296 + d0) % V / 2 ^ s : Nat) : Int)) := by
  have hVp : 0 < V := by omega
  have e2 : IntKind.u64.wrap ((IntKind.u64.wrap ((IntKind.u64.wrap ((u : Int) * 4294967296)) + (d1 : Int))) - (IntKind.u64.wrap ((q1 : Int) * (V : Int)))) = (m : Int) := by
    (have e3 : (q1 : Int) * (V : Int) = ((V * q1 : Nat) : Int) := by rw [Nat.mul_comm]; exact (Int.natCast_mul q1 V).symm); rw [e3]; obtain ⟨P, hP⟩ : ∃ P, V * q1 = P := ⟨_, rfl⟩; rw [hP] at he ⊢; simp only [wu]; omega
  have hK := Kn.start (u := m) (d := d0) v1lo v1hi v0hi (by omega) d0hi; have hmq : m / v1 ≤ 4294967297 := hK.le; refine Ev.step (fun k => ?_) (l1_ev hV hq1 hs _ _ hK (by have := Nat.mod_lt m (show 0 < v1 by omega); omega)); simp only [bits_Div64.j2]; rw [if_neg (by omega), e2]; have e4 : Int.tdiv (m : Int) (v1 : Int) = ((m / v1 : Nat) : Int) := rfl
  have e5 : IntKind.u64.wrap (((m / v1 : Nat) : Int)) = ((m / v1 : Nat) : Int) := by
    obtain ⟨Q, hQ⟩ : ∃ Q, m / v1 = Q := ⟨_, rfl⟩; rw [hQ] at hmq ⊢; simp only [wu]; omega
  rw [e4, e5]
  have e6 : IntKind.u64.wrap ((m : Int) - IntKind.u64.wrap (((m / v1 : Nat) : Int) * (v1 : Int))) = ((m % v1 : Nat) : Int) := by
    have h1 := Nat.div_add_mod m v1; (have h2 : ((m / v1 : Nat) : Int) * (v1 : Int) = ((v1 * (m / v1) : Nat) : Int) := by rw [Nat.mul_comm]; exact (Int.natCast_mul _ _).symm); rw [h2]; obtain ⟨P, hP⟩ : ∃ P, v1 * (m / v1) = P := ⟨_, rfl⟩; rw [hP] at h1 ⊢; simp only [wu]; omega
  rw [e6]

/-- The first digit's loop, and the second behind it. -/
theorem j2_ev {V s v1 v0 d1 d0 q1 u : Nat} (hV : V = v1 * 4294967296 + v0) (hs : s ≤ 64) (v1lo : 2147483648 ≤ v1) (v1hi : v1 < 4294967296) (v0hi : v0 < 4294967296) (d1hi : d1 < 4294967296) (d0hi : d0 < 4294967296) (uhi : u < V) (hq1 : q1 < 4294967296) (hd : q1 = (u * 4294967296 + d1) / V) :
    Ev (fun k => bits_Div64.j2 k V s v1 v0 u d1 d0 q1) (((u * 18446744073709551616 + (d1 * 4294967296 + d0)) / V : Nat), (((u * 18446744073709551616 + (d1 * 4294967296 + d0)) % V / 2 ^ s : Nat) : Int)) := by
  (have hVp : 0 < V := by omega); have he := Nat.div_add_mod (u * 4294967296 + d1) V; rw [← hd] at he; obtain ⟨a, b⟩ := digits_two (d0 := d0) hVp he; rw [a, b]; exact j2_ev' hV hs v1lo v1hi v0hi d1hi d0hi uhi hq1 he (Nat.mod_lt _ hVp)

theorem l0_ev {V s v1 v0 d1 d0 u : Nat} (hV : V = v1 * 4294967296 + v0) (hs : s ≤ 64) (v1lo : 2147483648 ≤ v1) (v1hi : v1 < 4294967296) (v0hi : v0 < 4294967296) (d1hi : d1 < 4294967296) (d0hi : d0 < 4294967296) (uhi : u < V) :
    ∀ q r, Kn v1 v0 u d1 q r → r < 4294967296 →
    Ev (fun k => bits_Div64.l0 k V s v1 v0 u d1 d0 q r) (((u * 18446744073709551616 + (d1 * 4294967296 + d0)) / V : Nat), (((u * 18446744073709551616 + (d1 * 4294967296 + d0)) % V / 2 ^ s : Nat) : Int)) := by
  have hend : ∀ q r, Kn v1 v0 u d1 q r → q = (u * 4294967296 + d1) / V → Ev (fun k => bits_Div64.j2 k V s v1 v0 u d1 d0 q) (((u * 18446744073709551616 + (d1 * 4294967296 + d0)) / V : Nat), (((u * 18446744073709551616 + (d1 * 4294967296 + d0)) % V / 2 ^ s : Nat) : Int)) := by
    intro q r hK hd; have hl := hK.q_lt; rw [← hV, ← hd] at hl; exact j2_ev hV hs v1lo v1hi v0hi d1hi d0hi uhi hl hd
  intro q
  induction q with
  | zero =>
    intro r hK hr; (have hd : 0 = (u * 4294967296 + d1) / V := by rw [hV]; exact hK.done (by omega)); refine Ev.step (f := fun k => bits_Div64.j1 k V s v1 v0 u d1 d0 (0 : Nat) r false) (fun k => ?_) (Ev.step (fun k => ?_) (hend 0 r hK hd))
    · simp only [bits_Div64.l0]
      rw [if_neg (by omega)]
      congr 1
      simp only [wu, decide_eq_false_iff_not]; omega
    · simp only [bits_Div64.j1]
      rw [if_neg (by decide)]
  | succ q ih =>
    intro r hK hr; have hP := hK.qv0; have hle := hK.le
    by_cases ht : 4294967296 ≤ q + 1 ∨ 4294967296 * r + d1 < (q + 1) * v0
    · have hj : ∀ k, bits_Div64.l0 (k + 1) V s v1 v0 u d1 d0 (q + 1 : Nat) r = bits_Div64.j1 k V s v1 v0 u d1 d0 (q + 1 : Nat) r true := by
        intro k; simp only [bits_Div64.l0]
        by_cases h1 : 4294967296 ≤ q + 1
        · rw [if_pos (by omega)]
        · rw [if_neg (by omega)]
          congr 1
          (have ht2 : 4294967296 * r + d1 < (q + 1) * v0 := by rcases ht with h | h; exact absurd h h1; exact h); rw [show ((q + 1 : Nat) : Int) * (v0 : Int) = (((q + 1) * v0 : Nat) : Int) from (Int.natCast_mul _ _).symm]; (generalize (q + 1) * v0 = P at *); simp only [wu, decide_eq_true_eq]; omega
      obtain ⟨_, hK'⟩ := hK.next ht; rw [Nat.add_sub_cancel] at hK'
      by_cases hb : 4294967296 ≤ r + v1
      · have hd := hK'.done (hK'.brk hb)
        rw [← hV] at hd; refine Ev.step hj (Ev.step (fun k => ?_) (hend q _ hK' hd)); simp only [bits_Div64.j1]; rw [if_pos trivial, if_pos (by simp only [wu]; omega)]; rw [show IntKind.u64.wrap (((q + 1 : Nat) : Int) - 1) = (q : Int) from by simp only [wu]; omega]
      · refine Ev.step hj (Ev.step (fun k => ?_) (ih (r + v1) hK' (by omega)))
        simp only [bits_Div64.j1]; rw [if_pos trivial, if_neg (by simp only [wu]; omega)]; rw [show IntKind.u64.wrap (((q + 1 : Nat) : Int) - 1) = (q : Int) from by simp only [wu]; omega]; rw [show IntKind.u64.wrap ((r : Int) + (v1 : Int)) = ((r + v1 : Nat) : Int) from by simp only [wu]; omega]
    · have hn : (q + 1) * v0 ≤ 4294967296 * r + d1 := by omega
      have hd := hK.done hn; rw [← hV] at hd; refine Ev.step (f := fun k => bits_Div64.j1 k V s v1 v0 u d1 d0 (q + 1 : Nat) r false) (fun k => ?_) (Ev.step (fun k => ?_) (hend (q + 1) r hK hd))
      · simp only [bits_Div64.l0]
        rw [if_neg (by omega)]
        congr 1
        rw [show ((q + 1 : Nat) : Int) * (v0 : Int) = (((q + 1) * v0 : Nat) : Int) from (Int.natCast_mul _ _).symm]; (generalize (q + 1) * v0 = P at *); simp only [wu, decide_eq_false_iff_not]; omega
      · simp only [bits_Div64.j1]
        rw [if_neg (by decide)]

theorem bitLen_two (y : Nat) (h0 : 0 < y) (h : y < 18446744073709551616) : 2 ^ (Lib.bitLen y - 1) ≤ y ∧ y < 2 ^ Lib.bitLen y ∧ 1 ≤ Lib.bitLen y ∧ Lib.bitLen y ≤ 64 := by
  have main : ∀ (f x : Nat), 0 < x → x < 2 ^ f → 2 ^ (Lib.bitLenAux f x - 1) ≤ x ∧ x < 2 ^ Lib.bitLenAux f x ∧ 1 ≤ Lib.bitLenAux f x ∧ Lib.bitLenAux f x ≤ f := by
    intro f
    induction f with
    | zero => intro x h0 h; simp at h; omega
    | succ f ih =>
      intro x h0 h; simp only [Lib.bitLenAux]; rw [if_neg (by omega)]
      by_cases hx : x / 2 = 0
      · rw [hx]
        (have : Lib.bitLenAux f 0 = 0 := by cases f <;> simp [Lib.bitLenAux]); rw [this]; (have : x = 1 := by omega); subst this; exact ⟨by decide, by decide, by omega, by omega⟩
      · obtain ⟨a, b, c, d⟩ := ih (x / 2) (by omega) (by rw [Nat.pow_succ] at h; omega)
        refine ⟨?_, ?_, by omega, by omega⟩
        · obtain ⟨n, hn⟩ : ∃ n, Lib.bitLenAux f (x / 2) = n + 1 := ⟨_, (Nat.sub_add_cancel c).symm⟩
          rw [hn] at a ⊢; rw [show 1 + (n + 1) - 1 = n + 1 from by omega, Nat.pow_succ]; rw [Nat.add_sub_cancel] at a; omega
        · rw [Nat.add_comm, Nat.pow_succ]; omega
  exact main 64 y h0 h
end Go.Proofs.Ytcbohbeipgcfhaa.Mth

/- math/bits.Div64 and Rem64, whole: quotient and remainder of a number of 128 bits, for a divisor greater than the upper half (Div64) and for each divisor that is not 0 (Rem64). -/
namespace Go.Proofs.Ytcbohbeipgcfhaa.Mth
open Go.RowKit Go.Proofs.Ytcbohbeipgcfhaa.G Go.Proofs.Ytcbohbeipgcfhaa.Given Go.Proofs.YtcbohbeipgcfhaaW.PrintWords Go.Proofs.YtcbohbeipgcfhaaW.PrintLast Go.Proofs.YtcbohbeipgcfhaaW.PrintMore
set_option linter.unusedVariables false

theorem maskN (a : Nat) (ha : a < 18446744073709551616) : Go.bits .and .u64 (a : Int) 4294967295 = ((a % 4294967296 : Nat) : Int) := by
  have h := bits_and_u64_nat a 4294967295 ha (by omega); have e : a &&& 4294967295 = a % 4294967296 := Nat.and_two_pow_sub_one_eq_mod a 32; rw [e] at h; exact h

theorem shl_nat (a s P : Nat) (hs : s ≤ 64) (hP : 2 ^ s = P) : shl .u64 (a : Int) (s : Int) = ((a * P % 18446744073709551616 : Nat) : Int) := by
  unfold shl; rw [show min (s : Int).toNat IntKind.u64.bits = s from by simp [IntKind.bits]; omega]; rw [wu]; (have : ((a : Int) * 2 ^ s) = ((a * P : Nat) : Int) := by rw [← hP]; simp); rw [this]; rfl
theorem shr_nat (a s P : Nat) (hs : s ≤ 64) (hP : 2 ^ s = P) : shr .u64 (a : Int) (s : Int) = ((a / P : Nat) : Int) := by
  unfold shr; rw [show min (s : Int).toNat IntKind.u64.bits = s from by simp [IntKind.bits]; omega]; (have : ((2 : Int) ^ s) = ((P : Nat) : Int) := by rw [← hP]; simp); rw [this]; rfl

theorem scale_split (hi lo P R : Nat) (hPR : R * P = 18446744073709551616) (hP : 0 < P) :
    (hi * 18446744073709551616 + lo) * P = (hi * P + lo / R) * 18446744073709551616 + lo * P % 18446744073709551616 := by
  (have h1 : lo * P / 18446744073709551616 = lo / R := by rw [← hPR]; exact Nat.mul_div_mul_right _ _ hP); have h2 := Nat.div_add_mod (lo * P) 18446744073709551616; rw [h1] at h2; (have h3 : (hi * 18446744073709551616 + lo) * P = hi * P * 18446744073709551616 + lo * P := by rw [Nat.add_mul, Nat.mul_right_comm]); rw [h3]; obtain ⟨X, hX⟩ : ∃ X, lo * P = X := ⟨_, rfl⟩; obtain ⟨Z, hZ⟩ : ∃ Z, lo / R = Z := ⟨_, rfl⟩; rw [hX, hZ] at h2; rw [hX, hZ]; omega

theorem or_add (a b P s : Nat) (hP : 2 ^ s = P) (hb : b < P) (h : a * P + b < 18446744073709551616) : Go.bits .or .u64 ((a * P : Nat) : Int) (b : Int) = ((a * P + b : Nat) : Int) := by
  rw [bits_or_u64_nat (a * P) b (by omega) (by omega)]
  have : a * P ||| b = a * P + b := by
    rw [← hP] at hb ⊢; rw [Nat.mul_comm]; exact (Nat.two_pow_add_eq_or_of_lt hb a).symm
  rw [this]

theorem div64_ev (hi lo y : Nat) (hy : y < 18446744073709551616) (hlo : lo < 18446744073709551616) (h : hi < y) :
    Ev (fun k => bits_Div64.f k hi lo y) (((hi * 18446744073709551616 + lo) / y : Nat), (((hi * 18446744073709551616 + lo) % y : Nat) : Int)) := by
  by_cases h0 : hi = 0
  · subst h0
    rw [Nat.zero_mul, Nat.zero_add]; refine Ev.congr (fun k => ?_) (Ev.now _); unfold bits_Div64.f; rw [if_neg (by omega), if_neg (by omega), if_pos (by rfl)]; have e4 : Int.tdiv (lo : Int) (y : Int) = ((lo / y : Nat) : Int) := rfl; have e5 : Int.tmod (lo : Int) (y : Int) = ((lo % y : Nat) : Int) := rfl; have hle : lo / y ≤ lo := Nat.div_le_self _ _; rw [e4, e5]; obtain ⟨Q, hQ⟩ : ∃ Q, lo / y = Q := ⟨_, rfl⟩; rw [hQ] at hle ⊢; rw [show IntKind.u64.wrap (Q : Int) = (Q : Int) from by simp only [wu]; omega]
  · obtain ⟨b1, b2, b3, b4⟩ := bitLen_two y (by omega) hy
    obtain ⟨n, hn⟩ : ∃ n, Lib.bitLen y = n := ⟨_, rfl⟩
    have hlz : bits_LeadingZeros64.f (y : Int) = some (((64 - n : Nat) : Int)) := by
      unfold bits_LeadingZeros64.f bits_Len64.f; rw [if_pos (by omega), Option.bind_some]; rw [show ((y : Int).toNat) = y from by omega, hn]; rw [hn] at b4; rw [show wrap64 (64 - (n : Int)) = ((64 - n : Nat) : Int) from by unfold wrap64; omega]
    rw [hn] at b1 b2 b3 b4; obtain ⟨s, hs⟩ : ∃ s, 64 - n = s := ⟨_, rfl⟩; rw [hs] at hlz; obtain ⟨P, hP⟩ : ∃ P, 2 ^ s = P := ⟨_, rfl⟩; obtain ⟨R, hR⟩ : ∃ R, 2 ^ (64 - s) = R := ⟨_, rfl⟩; have hP0 : 0 < P := by rw [← hP]; exact Nat.pow_pos (by decide)
    have hPR : R * P = 18446744073709551616 := by
      rw [← hP, ← hR, ← Nat.pow_add, show 64 - s + s = 64 from by omega]
    have hyP : y * P < 18446744073709551616 := by
      rw [← hPR]; refine Nat.mul_lt_mul_of_pos_right ?_ hP0; rw [← hR, show 64 - s = n from by omega]; exact b2
    have hyP2 : 9223372036854775808 ≤ y * P := by
      (have : 2 ^ (n - 1) * 2 ^ s ≤ y * P := by rw [hP]; exact Nat.mul_le_mul_right _ b1); rw [← Nat.pow_add, show n - 1 + s = 63 from by omega] at this; exact this
    have hhiP : (hi + 1) * P ≤ y * P := Nat.mul_le_mul_right _ h; rw [Nat.succ_mul] at hhiP
    have hloR : lo / R < P := by
      rw [Nat.div_lt_iff_lt_mul (by rw [← hR]; exact Nat.pow_pos (by decide)), Nat.mul_comm, hPR]; exact hlo
    have hsp := scale_split hi lo P R hPR hP0; obtain ⟨V, hV⟩ : ∃ V, y * P = V := ⟨_, rfl⟩; obtain ⟨u, hu⟩ : ∃ u, hi * P + lo / R = u := ⟨_, rfl⟩; obtain ⟨t, ht⟩ : ∃ t, lo * P % 18446744073709551616 = t := ⟨_, rfl⟩; (have htb : t < 18446744073709551616 := by rw [← ht]; exact Nat.mod_lt _ (by decide)); (have eV : shl .u64 (y : Int) (s : Int) = (V : Int) := by rw [shl_nat y s P (by omega) hP, hV, Nat.mod_eq_of_lt (by omega)]); (have eHi : shl .u64 (hi : Int) (s : Int) = ((hi * P : Nat) : Int) := by rw [shl_nat hi s P (by omega) hP, Nat.mod_eq_of_lt (by omega)]); (have eLo : shl .u64 (lo : Int) (s : Int) = (t : Int) := by rw [shl_nat lo s P (by omega) hP, ht]); (have ew : IntKind.u64.wrap (s : Int) = (s : Int) := by simp only [wu]; omega); (have ew2 : IntKind.u64.wrap (64 - (s : Int)) = ((64 - s : Nat) : Int) := by simp only [wu]; omega); have eR : shr .u64 (lo : Int) ((64 - s : Nat) : Int) = ((lo / R : Nat) : Int) := shr_nat lo (64 - s) R (by omega) hR
    have eU : Go.bits .or .u64 ((hi * P : Nat) : Int) ((lo / R : Nat) : Int) = (u : Int) := by
      rw [or_add hi (lo / R) P s hP hloR (by omega), hu]
    rw [hV] at hyP hyP2 hhiP; (have huV : u < V := by omega); rw [hu, ht] at hsp; (have hVs : V = (V / 4294967296) * 4294967296 + V % 4294967296 := by omega); (have hv1 : 2147483648 ≤ V / 4294967296 := by omega); have hK := Kn.start (v1 := V / 4294967296) (v0 := V % 4294967296) (u := u) (d := t / 4294967296) hv1 (by omega) (by omega) (by omega) (by omega); (have hr : u % (V / 4294967296) < 4294967296 := by have := Nat.mod_lt u (show 0 < V / 4294967296 by omega); omega); have hev := l0_ev (V := V) (s := s) (d1 := t / 4294967296) (d0 := t % 4294967296) hVs (by omega) hv1 (by omega) (by omega) (by omega) (by omega) huV _ _ hK hr; rw [show t / 4294967296 * 4294967296 + t % 4294967296 = t from by omega, ← hsp] at hev; obtain ⟨r1, r2⟩ := unscale (N := hi * 18446744073709551616 + lo) (y := y) (s := s) (q := (hi * 18446744073709551616 + lo) * P / V) (r := (hi * 18446744073709551616 + lo) * P % V) (by rw [hP, hV]) (by rw [hP, hV]); rw [r1, r2] at hev; refine Ev.congr (fun k => ?_) hev; unfold bits_Div64.f; rw [if_neg (by omega), if_neg (by omega), if_neg (by omega), hlz, Option.bind_some]; rw [ew, if_pos (by omega), ew2, if_pos (by omega), eV, if_neg (by omega), eHi, eLo, eR, eU, maskN V (by omega), maskN t (by omega)]; (have e4 : ((V : Int) / 4294967296) = ((V / 4294967296 : Nat) : Int) := by omega); (have e5 : ((t : Int) / 4294967296) = ((t / 4294967296 : Nat) : Int) := by omega); rw [e4, e5]; obtain ⟨v1, hv1e⟩ : ∃ v1, V / 4294967296 = v1 := ⟨_, rfl⟩; rw [hv1e] at hK hr hv1 ⊢; have e6 : Int.tdiv (u : Int) (v1 : Int) = ((u / v1 : Nat) : Int) := rfl; rw [e6]; have hq := hK.le; have hdm := Nat.div_add_mod u v1; obtain ⟨Q, hQ⟩ : ∃ Q, u / v1 = Q := ⟨_, rfl⟩; rw [hQ] at hq hdm ⊢; rw [show IntKind.u64.wrap (Q : Int) = (Q : Int) from by simp only [wu]; omega]
    rw [show IntKind.u64.wrap ((u : Int) - IntKind.u64.wrap ((Q : Int) * (v1 : Int))) = ((u % v1 : Nat) : Int) from by
      rw [show (Q : Int) * (v1 : Int) = ((v1 * Q : Nat) : Int) from by rw [Nat.mul_comm]; exact (Int.natCast_mul _ _).symm]; obtain ⟨T, hT⟩ : ∃ T, v1 * Q = T := ⟨_, rfl⟩; obtain ⟨M, hM⟩ : ∃ M, u % v1 = M := ⟨_, rfl⟩; rw [hT, hM] at hdm; rw [hT, hM]; have hM2 : M ≤ u := by rw [← hM]; exact Nat.mod_le _ _
      simp only [wu]; omega]

theorem rem64_ev (hi lo y : Nat) (hy : y < 18446744073709551616) (hlo : lo < 18446744073709551616) (h : 0 < y) :
    Ev (fun k => bits_Rem64.f k hi lo y) (((hi * 18446744073709551616 + lo) % y : Nat) : Int) := by
  have hd := div64_ev (hi % y) lo y hy hlo (Nat.mod_lt _ h)
  have e : (hi % y * 18446744073709551616 + lo) % y = (hi * 18446744073709551616 + lo) % y := by
    rw [Nat.add_mod, Nat.mul_mod, Nat.mod_mod, ← Nat.mul_mod, ← Nat.add_mod]
  rw [e] at hd; refine Ev.congr (fun k => ?_) (Ev.bind (f := fun _ b => some b.2) hd (Ev.now _)); unfold bits_Rem64.f; rw [if_neg (by omega)]; rfl
end Go.Proofs.Ytcbohbeipgcfhaa.Mth

-- Printed by gp.py (a program of this session's own, over the kit's printer) out of the translation; Lean checks it.
namespace Go.Proofs.Ytcbohbeipgcfhaa.G
open Go.Proofs.Ytcbohbeipgcfhaa.Given Go.Proofs.Ytcbohbeipgcfhaa.Short
open Go.RowKit Go.Proofs.YtcbohbeipgcfhaaW.PrintWords Go.Proofs.YtcbohbeipgcfhaaW.PrintLast Go.Proofs.YtcbohbeipgcfhaaW.PrintMore
attribute [local go_sem] max2_int min2_int max_two min_two max_three min_three max_four min_four   -- for this text's walks alone
set_option linter.unusedVariables false
set_option linter.unusedSimpArgs false

/-! ### r1_Plus: function 69 -/
def r1_Plus.f (a0_0 : Int) (a0_1 : Int) (a1_0 : Int) (a1_1 : Int) : Option (Int × Int) := (bits_Add64.f a0_1 a1_1 0).bind fun bt461 => ((bits_Add64.f a0_0 a1_0 bt461.2).bind fun bt463 => (some (bt463.1, bt461.1)))
set_option maxHeartbeats 8000000 in
set_option maxRecDepth 100000 in
theorem r1_Plus.calls (a0_0 : Int) (a0_1 : Int) (a1_0 : Int) (a1_1 : Int) (r1 : Int) (r2 : Int) (w : World) (h : r1_Plus.f a0_0 a0_1 a1_0 a1_1 = some (r1, r2)) :
  Calls Try.prog 69 #[.agg #[.int .u64 a0_0, .int .u64 a0_1], .agg #[.int .u64 a1_0, .int .u64 a1_1]] w fun e w' => e = .returned (.agg #[.int .u64 r1, .int .u64 r2]) ∧ Below w.heap.size w w' := by
 have hu61 := Try.underlying61; have HB := Aside0.mk (Below.refl w.heap.size w); have H : ((bits_Add64.f a0_1 a1_1 0).bind fun bt461 => ((bits_Add64.f a0_0 a1_0 bt461.2).bind fun bt463 => (some (bt463.1, bt461.1)))) = some (r1, r2) := h; clear h; replace H := Option.bind_eq_some_iff.mp H; obtain ⟨⟨t461, t462⟩, A30, H⟩ := H; (try dsimp only at H); have A3 := Aside0.mk A30; clear A30; replace H := Option.bind_eq_some_iff.mp H; obtain ⟨⟨t463, t464⟩, A40, H⟩ := H; (try dsimp only at H); have A4 := Aside0.mk A40; clear A40; simp only [Option.some.injEq, Prod.mk.injEq] at H; obtain ⟨rfl, rfl⟩ := H; (go_enter Try.func69, Try.ntmps69); (go_wp2_with (first | ((with_reducible refine gate_dst (N := 2) rfl ?_); refine bx (N := 2) (cs := #[.int .u64 a0_0, .int .u64 a0_1]) (t := 61) ?_; intro gb458 hg w5 hbox hb; have BK458 := Aside0.mk (hbox); have GW458 := gs HB hg; have GE458 := gs HB hg; replace HB := wb HB hb; clear hb hbox hg) | ((with_reducible refine gate_dst (N := 3) rfl ?_); refine bx (N := 3) (cs := #[.int .u64 a1_0, .int .u64 a1_1]) (t := 61) ?_; intro gb459 hg w6 hbox hb; have BK459 := Aside0.mk (hbox); have GW459 := gs HB hg; have GE459 := gs HB hg; have NB458_459 := nl BK458 hg; have NB459_458 := nr BK458 hg; replace BK458 := kb BK458 hb; replace HB := wb HB hb; clear hb hbox hg) | ((with_reducible refine gate_dst (N := 4) rfl ?_); refine bx (N := 4) (cs := #[.int .u64 0, .int .u64 0]) (t := 61) ?_; intro gb460 hg w7 hbox hb; have BK460 := Aside0.mk (hbox); have GW460 := gs HB hg; have GE460 := gs HB hg; have NB458_460 := nl BK458 hg; have NB460_458 := nr BK458 hg; have NB459_460 := nl BK459 hg; have NB460_459 := nr BK459 hg; replace BK458 := kb BK458 hb; replace BK459 := kb BK459 hb; replace HB := wb HB hb; clear hb hbox hg; obtain ⟨hnb8, hnc8⟩ := n2 NB458_459; obtain ⟨hnb9, hnc9⟩ := n2 NB458_460; have hcz10_0 : w7.cell? ⟨gb458, 0, none⟩ = some (.int .u64 a0_0) := bc BK458 0; have hcz10_1 : w7.cell? ⟨gb458, 1, none⟩ = some (.int .u64 a0_1) := bc BK458 1; have hfz10_0 := blk_frozen BK458.out 0; have hfz10_1 := blk_frozen BK458.out 1; obtain ⟨hnb11, hnc11⟩ := n2 NB459_460; have hcz12_0 : w7.cell? ⟨gb459, 0, none⟩ = some (.int .u64 a1_0) := bc BK459 0; have hcz12_1 : w7.cell? ⟨gb459, 1, none⟩ = some (.int .u64 a1_1) := bc BK459 1; have hfz12_0 := blk_frozen BK459.out 0; have hfz12_1 := blk_frozen BK459.out 1) | ((with_reducible refine gate_callee (f := 73) rfl ?_); refine gx (some 14) Try.func73 #[.int .u64 a0_1, .int .u64 a1_1, .int .u64 0] ?_; (with_reducible refine (bits_Add64.calls a0_1 a1_1 0 t461 t462 _ A3.out).mono ?_); rintro e w13 ⟨rfl, hb⟩; refine ⟨_, rfl, ?_⟩; replace BK458 := kb BK458 hb; replace BK459 := kb BK459 hb; replace BK460 := kb BK460 hb; replace HB := wb HB hb; (try clear hb); (try clear hb2); (try clear hk); (try clear hi); have hcz14_0 : w13.cell? ⟨gb458, 0, none⟩ = some (.int .u64 a0_0) := bc BK458 0; have hcz14_1 : w13.cell? ⟨gb458, 1, none⟩ = some (.int .u64 a0_1) := bc BK458 1; have hfz14_0 := blk_frozen BK458.out 0; have hfz14_1 := blk_frozen BK458.out 1; have hcz15_0 : w13.cell? ⟨gb459, 0, none⟩ = some (.int .u64 a1_0) := bc BK459 0; have hcz15_1 : w13.cell? ⟨gb459, 1, none⟩ = some (.int .u64 a1_1) := bc BK459 1; have hfz15_0 := blk_frozen BK459.out 0; have hfz15_1 := blk_frozen BK459.out 1) | ((with_reducible refine gate_callee (f := 73) rfl ?_); refine gx (some 23) Try.func73 #[.int .u64 a0_0, .int .u64 a1_0, .int .u64 t462] ?_; (with_reducible refine (bits_Add64.calls a0_0 a1_0 t462 t463 t464 _ A4.out).mono ?_); rintro e w16 ⟨rfl, hb⟩; refine ⟨_, rfl, ?_⟩; replace BK458 := kb BK458 hb; replace BK459 := kb BK459 hb; replace BK460 := kb BK460 hb; replace HB := wb HB hb; (try clear hb); (try clear hb2); (try clear hk); (try clear hi); have hcz17_0 : w16.cell? ⟨gb460, 0, none⟩ = some (.int .u64 0) := bc BK460 0; have hcz17_1 : w16.cell? ⟨gb460, 1, none⟩ = some (.int .u64 0) := bc BK460 1; have hfz17_0 := blk_frozen BK460.out 0; have hfz17_1 := blk_frozen BK460.out 1))); refine bodyPost_ret (results_cell_row rfl _ _ gb460 61 #[.int .u64 t463, .int .u64 t461] (0, 0) _ rfl (by refine pe ?_; refine blk_put (cs := #[.int .u64 t463, .int .u64 0]) ?_ 1 _ rfl; refine pe ?_; refine blk_put (cs := #[.int .u64 0, .int .u64 0]) ?_ 0 _ rfl; refine pe ?_; exact BK460.out) Try.underlying61 rfl (by kernel_rfl)) rfl ?_; exact ⟨by first | rfl | (simp [errW_none, errW_some] <;> rfl) | (simp [*, errW_none, errW_some] <;> rfl), bw HB⟩

end Go.Proofs.Ytcbohbeipgcfhaa.G

/- The reference's arithmetic on numbers of 128 bits, as the printed functions compute it: doubling, sum, difference, comparison, long division, greatest common divisor: for all numbers below 2^128 (a divisor that is not 0). -/
namespace Go.Proofs.Ytcbohbeipgcfhaa.Mth
open Go.RowKit Go.Proofs.Ytcbohbeipgcfhaa.G Go.Proofs.Ytcbohbeipgcfhaa.Given Go.Proofs.YtcbohbeipgcfhaaW.PrintWords Go.Proofs.YtcbohbeipgcfhaaW.PrintLast Go.Proofs.YtcbohbeipgcfhaaW.PrintMore
set_option linter.unusedVariables false

/-- the upper and the lower half of a number -/
def hi (n : Nat) : Int := ((n / 18446744073709551616 : Nat) : Int)
def lo (n : Nat) : Int := ((n % 18446744073709551616 : Nat) : Int)

theorem gcd_ev : ∀ b a : Nat, Ev (fun k => ratio_gcd.f k a b) ((Nat.gcd a b : Nat) : Int) := by
  intro b
  induction b using Nat.strongRecOn with
  | _ b ih =>
    intro a
    by_cases h : b = 0
    · subst h
      refine ev_some (fun k => ?_); simp only [ratio_gcd.f, ratio_gcd.l0]; rw [if_pos (by rfl), Nat.gcd_zero_right]
    · have hlt : a % b < b := Nat.mod_lt _ (by omega)
      have := ih (a % b) hlt b; rw [show Nat.gcd a b = Nat.gcd b (a % b) from by rw [Nat.gcd_comm a b, Nat.gcd_rec b a, Nat.gcd_comm]]; refine Ev.step (fun k => ?_) this; simp only [ratio_gcd.f, ratio_gcd.l0]; rw [if_neg (by omega)]; rfl

theorem twice_eq (n : Nat) (h : n < 340282366920938463463374607431768211456) : r1_Twice.f (hi n) (lo n) = some (hi (2 * n % 340282366920938463463374607431768211456), lo (2 * n % 340282366920938463463374607431768211456)) := by
  unfold r1_Twice.f; obtain ⟨H, hH⟩ : ∃ H, n / 18446744073709551616 = H := ⟨_, rfl⟩; obtain ⟨L, hL⟩ : ∃ L, n % 18446744073709551616 = L := ⟨_, rfl⟩
  have e1 : IntKind.u64.wrap (hi n * 2) = ((H % 9223372036854775808 * 2 : Nat) : Int) := by
    unfold hi; rw [hH, wu]; omega
  have e2 : lo n / 9223372036854775808 = ((L / 9223372036854775808 : Nat) : Int) := by unfold lo; rw [hL]; omega
  have e3 : IntKind.u64.wrap (lo n * 2) = lo (2 * n % 340282366920938463463374607431768211456) := by
    unfold lo; rw [wu]; omega
  rw [e1, e2, e3, or_add (H % 9223372036854775808) (L / 9223372036854775808) 2 1 rfl (by omega) (by omega)]
  have e4 : ((H % 9223372036854775808 * 2 + L / 9223372036854775808 : Nat) : Int) = hi (2 * n % 340282366920938463463374607431768211456) := by
    unfold hi; omega
  rw [e4]

theorem minus_eq (a b : Nat) (ha : a < 340282366920938463463374607431768211456) (hb : b < 340282366920938463463374607431768211456) :
    r1_Minus.f (hi a) (lo a) (hi b) (lo b) = some (hi ((a + 340282366920938463463374607431768211456 - b) % 340282366920938463463374607431768211456), lo ((a + 340282366920938463463374607431768211456 - b) % 340282366920938463463374607431768211456)) := by
  unfold r1_Minus.f bits_Sub64.f; rw [if_pos (by unfold lo; omega), Option.bind_some]; dsimp only; rw [if_pos (by unfold hi; split <;> omega), Option.bind_some]; simp only [Option.some.injEq, Prod.mk.injEq]; unfold hi lo; constructor
  · split <;> omega
  · omega

theorem plus_eq (a b : Nat) (ha : a < 340282366920938463463374607431768211456) (hb : b < 340282366920938463463374607431768211456) :
    r1_Plus.f (hi a) (lo a) (hi b) (lo b) = some (hi ((a + b) % 340282366920938463463374607431768211456), lo ((a + b) % 340282366920938463463374607431768211456)) := by
  unfold r1_Plus.f bits_Add64.f; rw [if_pos (by unfold lo; omega), Option.bind_some]; dsimp only; rw [if_pos (by unfold hi lo; omega), Option.bind_some]; simp only [Option.some.injEq, Prod.mk.injEq]; unfold hi lo; constructor <;> omega

theorem hl_eq {a b : Nat} : hi a = hi b → lo a = lo b → a = b := by unfold hi lo; omega
theorem order_ev (a b : Nat) : Ev (fun k => r1_Order.f k (hi a) (lo a) (hi b) (lo b)) (if a < b then (-1 : Int) else if a = b then 0 else 1) := by
  have key : Ev (fun k => r1_Order.j0 k (decide (a < b)) (hi a) (lo a) (hi b) (lo b)) (if a < b then (-1 : Int) else if a = b then 0 else 1) := by
    refine ev_some (fun k => ?_); simp only [r1_Order.j0, decide_eq_true_eq]
    by_cases h : a < b
    · rw [if_pos h, if_pos h]
    · rw [if_neg h, if_neg h]
      by_cases e : a = b
      · subst e; simp
      · rw [if_neg e, if_neg]
        intro hc; simp only [Bool.and_eq_true, beq_iff_eq] at hc; exact e (hl_eq hc.1 hc.2)
  refine Ev.congr (fun k => ?_) key; unfold r1_Order.f
  by_cases h1 : hi a < hi b
  · rw [if_pos h1]
    congr 1
    symm; rw [decide_eq_true_eq]; unfold hi at h1; omega
  · rw [if_neg h1]
    by_cases h2 : hi a = hi b
    · rw [if_pos h2]
      congr 1
      rw [decide_eq_decide]; unfold hi at h2; unfold lo; omega
    · rw [if_neg h2]
      congr 1
      symm; rw [decide_eq_false_iff_not]; unfold hi at h1 h2; omega

theorem bit_lo (N i : Nat) (hi' : i < 64) : N % 18446744073709551616 / 2 ^ i % 2 = N / 2 ^ i % 2 := by
  have h := Nat.testBit_mod_two_pow N 64 i; rw [show decide (i < 64) = true from decide_eq_true hi', Bool.true_and] at h; rw [Nat.testBit_eq_decide_div_mod_eq, Nat.testBit_eq_decide_div_mod_eq, decide_eq_decide] at h
  change (N % 18446744073709551616 / 2 ^ i % 2 = 1 ↔ _) at h
  obtain ⟨X, hX⟩ : ∃ X, N % 18446744073709551616 / 2 ^ i = X := ⟨_, rfl⟩; obtain ⟨Y, hY⟩ : ∃ Y, N / 2 ^ i = Y := ⟨_, rfl⟩; rw [hX, hY] at h ⊢; omega
theorem bit_hi (N i : Nat) (hi' : 64 ≤ i) : N / 18446744073709551616 / 2 ^ (i - 64) = N / 2 ^ i := by
  rw [Nat.div_div_eq_div_mul]
  have : 18446744073709551616 * 2 ^ (i - 64) = 2 ^ i := by
    rw [show (18446744073709551616 : Nat) = 2 ^ 64 from rfl, ← Nat.pow_add, show 64 + (i - 64) = i from by omega]
  rw [this]
theorem and_one (a : Nat) (ha : a < 18446744073709551616) : Go.bits .and .u64 (a : Int) 1 = ((a % 2 : Nat) : Int) := by
  have h := bits_and_u64_nat a 1 ha (by omega); rw [Nat.and_one_is_mod] at h; exact h

/-- One round, from the doubled rest with its new bit. -/
theorem dstep_ev (N D Q R b i : Nat) (hN : N < 340282366920938463463374607431768211456) (hD : D < 340282366920938463463374607431768211456) (hD0 : 0 < D) (hQ : Q < 170141183460469231731687303715884105728) (hR : R < D) (hb : b ≤ 1) {r : Int × Int × Int × Int}
    (h : Ev (fun k => r1_Divide.l0 k ((i : Int) - 1) (hi N) (lo N) (hi D) (lo D) (hi (if D ≤ 2 * R + b then 2 * Q + 1 else 2 * Q)) (lo (if D ≤ 2 * R + b then 2 * Q + 1 else 2 * Q)) (hi (if D ≤ 2 * R + b then 2 * R + b - D else 2 * R + b)) (lo (if D ≤ 2 * R + b then 2 * R + b - D else 2 * R + b))) r) (hi' : i < 128) :
    Ev (fun k => r1_Divide.j2 k (i : Int) (b : Int) (hi N) (lo N) (hi D) (lo D) (hi Q) (lo Q) (hi R) (lo R)) r := by
  have t1 := twice_eq R (by omega); have t2 := twice_eq Q (by omega); obtain ⟨X, hX⟩ : ∃ X, 2 * R % 340282366920938463463374607431768211456 = X := ⟨_, rfl⟩; rw [hX] at t1; rw [show 2 * Q % 340282366920938463463374607431768211456 = 2 * Q from by omega] at t2
  have eo1 : Go.bits .or .u64 (lo X) (b : Int) = lo (X + b) := by
    have := or_add (X % 18446744073709551616 / 2) b 2 1 rfl (by omega) (by omega); rw [show X % 18446744073709551616 / 2 * 2 = X % 18446744073709551616 from by omega] at this; unfold lo; rw [this]; omega
  have eh1 : hi X = hi (X + b) := by unfold hi; omega
  have eo2 : Go.bits .or .u64 (lo (2 * Q)) 1 = lo (2 * Q + 1) := by
    have := or_add (2 * Q % 18446744073709551616 / 2) 1 2 1 rfl (by omega) (by omega); rw [show 2 * Q % 18446744073709551616 / 2 * 2 = 2 * Q % 18446744073709551616 from by omega] at this; unfold lo; exact this.trans (by omega)
  (have eh2 : hi (2 * Q) = hi (2 * Q + 1) := by unfold hi; omega); (have ei : wrap64 ((i : Int) - 1) = (i : Int) - 1 := by unfold wrap64; omega); have hm := minus_eq (X + b) D (by omega) hD
  by_cases hov : 340282366920938463463374607431768211456 ≤ 2 * R
  · rw [if_pos (by omega), if_pos (by omega)] at h
    refine Ev.step (fun k => ?_) h; simp only [r1_Divide.j2]; rw [t1, t2, Option.bind_some, Option.bind_some]; dsimp only; rw [if_pos (by unfold hi; omega), eo1, eh1, hm, Option.bind_some, ei]; dsimp only; rw [eo2, eh2, show (X + b + 340282366920938463463374607431768211456 - D) % 340282366920938463463374607431768211456 = 2 * R + b - D from by omega]
  · have ho := order_ev (X + b) D
    by_cases hge : D ≤ 2 * R + b
    · rw [if_pos hge, if_pos hge] at h
      rw [if_neg (show ¬ X + b < D by omega)] at ho; obtain ⟨c, hc⟩ : ∃ c : Int, (if X + b = D then (0 : Int) else 1) = c := ⟨_, rfl⟩; rw [hc] at ho; (have hc0 : c ≥ 0 := by rw [← hc]; split <;> decide); (have hsub : (X + b + 340282366920938463463374607431768211456 - D) % 340282366920938463463374607431768211456 = 2 * R + b - D := by omega); rw [← hsub] at h; refine Ev.step (f := fun k => (r1_Order.f k (hi (X + b)) (lo (X + b)) (hi D) (lo D)).bind fun t => if t ≥ 0 then r1_Divide.l0 k ((i : Int) - 1) (hi N) (lo N) (hi D) (lo D) (hi (2 * Q + 1)) (lo (2 * Q + 1)) (hi ((X + b + 340282366920938463463374607431768211456 - D) % 340282366920938463463374607431768211456)) (lo ((X + b + 340282366920938463463374607431768211456 - D) % 340282366920938463463374607431768211456)) else r1_Divide.l0 k ((i : Int) - 1) (hi N) (lo N) (hi D) (lo D) (hi (2 * Q)) (lo (2 * Q)) (hi (X + b)) (lo (X + b))) (fun k => ?_) (Ev.bind ho (Ev.congr (fun k => if_pos hc0) h)); simp only [r1_Divide.j2]; rw [t1, t2, Option.bind_some, Option.bind_some]; dsimp only; rw [if_neg (by unfold hi; omega), eo1, eh1, hm, ei, eo2, ← eh2]; rfl
    · rw [if_neg hge, if_neg hge] at h
      (have hXR : X = 2 * R := by omega); rw [← hXR] at h; rw [if_pos (show X + b < D by omega)] at ho; refine Ev.step (f := fun k => (r1_Order.f k (hi (X + b)) (lo (X + b)) (hi D) (lo D)).bind fun t => if t ≥ 0 then r1_Divide.l0 k ((i : Int) - 1) (hi N) (lo N) (hi D) (lo D) (hi (2 * Q + 1)) (lo (2 * Q + 1)) (hi ((X + b + 340282366920938463463374607431768211456 - D) % 340282366920938463463374607431768211456)) (lo ((X + b + 340282366920938463463374607431768211456 - D) % 340282366920938463463374607431768211456)) else r1_Divide.l0 k ((i : Int) - 1) (hi N) (lo N) (hi D) (lo D) (hi (2 * Q)) (lo (2 * Q)) (hi (X + b)) (lo (X + b))) (fun k => ?_) (Ev.bind ho (Ev.congr (fun k => if_neg (by decide)) h)); simp only [r1_Divide.j2]; rw [t1, t2, Option.bind_some, Option.bind_some]; dsimp only; rw [if_neg (by unfold hi; omega), eo1, eh1, hm, ei, eo2, ← eh2]; rfl

theorem div_step (M D b : Nat) (hD0 : 0 < D) (hb : b ≤ 1) : (2 * M + b) / D = (if D ≤ 2 * (M % D) + b then 2 * (M / D) + 1 else 2 * (M / D)) ∧ (2 * M + b) % D = (if D ≤ 2 * (M % D) + b then 2 * (M % D) + b - D else 2 * (M % D) + b) := by
  have e := Nat.div_add_mod M D; have hr := Nat.mod_lt M hD0; obtain ⟨Q, hQ⟩ : ∃ Q, M / D = Q := ⟨_, rfl⟩; obtain ⟨R, hR⟩ : ∃ R, M % D = R := ⟨_, rfl⟩; rw [hQ, hR] at e; rw [hR] at hr; rw [hQ, hR]
  by_cases h : D ≤ 2 * R + b
  · rw [if_pos h, if_pos h]
    (have : 2 * M + b = D * (2 * Q + 1) + (2 * R + b - D) := by rw [Nat.mul_add, Nat.mul_left_comm]; omega); rw [this, Nat.mul_add_div hD0, Nat.mul_add_mod, Nat.div_eq_of_lt (by omega), Nat.mod_eq_of_lt (by omega)]; exact ⟨rfl, rfl⟩
  · rw [if_neg h, if_neg h]
    (have : 2 * M + b = D * (2 * Q) + (2 * R + b) := by rw [Nat.mul_left_comm]; omega); rw [this, Nat.mul_add_div hD0, Nat.mul_add_mod, Nat.div_eq_of_lt (by omega), Nat.mod_eq_of_lt (by omega)]; exact ⟨rfl, rfl⟩

theorem dloop_ev (N D : Nat) (hN : N < 340282366920938463463374607431768211456) (hD : D < 340282366920938463463374607431768211456) (hD0 : 0 < D) : ∀ i : Nat, i ≤ 128 →
    Ev (fun k => r1_Divide.l0 k ((i : Int) - 1) (hi N) (lo N) (hi D) (lo D) (hi (N / 2 ^ i / D)) (lo (N / 2 ^ i / D)) (hi (N / 2 ^ i % D)) (lo (N / 2 ^ i % D))) (hi (N / D), lo (N / D), hi (N % D), lo (N % D)) := by
  intro i
  induction i with
  | zero =>
    intro _; rw [Nat.pow_zero, Nat.div_one]; refine ev_some (fun k => ?_); simp only [r1_Divide.l0]; rw [if_neg (by decide)]
  | succ i ih =>
    intro hi1; have h := ih (by omega); obtain ⟨b, hb⟩ : ∃ b, N / 2 ^ i % 2 = b := ⟨_, rfl⟩; obtain ⟨M, hM⟩ : ∃ M, N / 2 ^ (i + 1) = M := ⟨_, rfl⟩
    have hNM : N / 2 ^ i = 2 * M + b := by
      rw [← hM, ← hb, Nat.pow_succ, ← Nat.div_div_eq_div_mul]; omega
    have hb1 : b ≤ 1 := by omega
    have hMN : M < 170141183460469231731687303715884105728 := by
      rw [← hM, Nat.pow_succ, ← Nat.div_div_eq_div_mul]; have := Nat.div_le_self N (2 ^ i); omega
    obtain ⟨d1, d2⟩ := div_step M D b hD0 hb1; rw [hNM, d1, d2] at h; have hQM : M / D ≤ M := Nat.div_le_self _ _; rw [hM]; have hj := dstep_ev N D (M / D) (M % D) b i hN hD hD0 (by omega) (Nat.mod_lt _ hD0) hb1 h (by omega); refine Ev.step (fun k => ?_) hj; rw [show (((i + 1 : Nat) : Int) - 1) = (i : Int) from by omega]; simp only [r1_Divide.l0]
    have ew : IntKind.u64.wrap (Int.tmod (i : Int) 64) = ((i % 64 : Nat) : Int) := by
      have : Int.tmod (i : Int) 64 = ((i % 64 : Nat) : Int) := rfl; rw [this, wu]; omega
    rw [if_pos (by omega), ew, if_pos (by omega)]
    by_cases h64 : 64 ≤ i
    · rw [if_pos (by omega)]
      (have ew2 : IntKind.u64.wrap (wrap64 ((i : Int) - 64)) = ((i - 64 : Nat) : Int) := by unfold wrap64; rw [wu]; omega); rw [ew2, if_pos (by omega)]
      have e1 : shr .u64 (hi N) ((i - 64 : Nat) : Int) = ((N / 2 ^ i : Nat) : Int) := by
        unfold hi; rw [shr_nat _ (i - 64) _ (by omega) rfl, bit_hi N i h64]
      have e2 := and_one (N / 2 ^ i) (by
        rw [← bit_hi N i h64]; have := Nat.div_le_self (N / 18446744073709551616) (2 ^ (i - 64))
        omega)
      rw [e1, e2, hb]
    · rw [if_neg (by omega)]
      have e1 : shr .u64 (lo N) ((i % 64 : Nat) : Int) = ((N % 18446744073709551616 / 2 ^ i : Nat) : Int) := by
        rw [show i % 64 = i from by omega]; unfold lo; rw [shr_nat _ i _ (by omega) rfl]
      have e2 := and_one (N % 18446744073709551616 / 2 ^ i) (by
        have := Nat.div_le_self (N % 18446744073709551616) (2 ^ i)
        omega)
      rw [e1, e2, bit_lo N i (by omega), hb]

theorem divide_ev (N D : Nat) (hN : N < 340282366920938463463374607431768211456) (hD : D < 340282366920938463463374607431768211456) (hD0 : 0 < D) :
    Ev (fun k => r1_Divide.f k (hi N) (lo N) (hi D) (lo D)) (hi (N / D), lo (N / D), hi (N % D), lo (N % D)) := by
  have hlong : Ev (fun k => r1_Divide.j0 k false (hi N) (lo N) (hi D) (lo D)) (hi (N / D), lo (N / D), hi (N % D), lo (N % D)) := by
    have h := dloop_ev N D hN hD hD0 128 (Nat.le_refl _); have e0 : N / 2 ^ 128 = 0 := Nat.div_eq_of_lt hN; rw [e0, Nat.zero_div, Nat.zero_mod] at h; refine Ev.step (fun k => ?_) h; simp only [r1_Divide.j0]; rw [if_neg (by decide)]; rfl
  by_cases h1 : N < 18446744073709551616
  · by_cases h2 : D < 18446744073709551616
    · refine Ev.congr (f := fun k => r1_Divide.j0 k true (hi N) (lo N) (hi D) (lo D)) (fun k => ?_) (ev_some (fun k => ?_))
      · unfold r1_Divide.f
        rw [if_pos (by unfold hi; omega)]
        congr 1
        rw [beq_iff_eq]; unfold hi; omega
      · simp only [r1_Divide.j0]
        rw [if_pos trivial, if_neg (by unfold lo; omega)]; (have el1 : lo N = (N : Int) := by unfold lo; omega); (have el2 : lo D = (D : Int) := by unfold lo; omega); have e3 : Int.tdiv (N : Int) (D : Int) = ((N / D : Nat) : Int) := rfl; have e4 : Int.tmod (N : Int) (D : Int) = ((N % D : Nat) : Int) := rfl; have l1 := Nat.div_le_self N D; have l2 := Nat.mod_lt N hD0; rw [el1, el2, e3, e4]; obtain ⟨Q, hQ⟩ : ∃ Q, N / D = Q := ⟨_, rfl⟩; obtain ⟨R, hR⟩ : ∃ R, N % D = R := ⟨_, rfl⟩; rw [hQ] at l1; rw [hR] at l2; rw [hQ, hR, wu]; simp only [Option.some.injEq, Prod.mk.injEq]; unfold hi lo; omega
    · refine Ev.congr (fun k => ?_) hlong
      unfold r1_Divide.f; rw [if_pos (by unfold hi; omega)]
      congr 1
      rw [beq_eq_false_iff_ne]; unfold hi; omega
  · refine Ev.congr (fun k => ?_) hlong
    unfold r1_Divide.f; rw [if_neg (by unfold hi; omega)]

theorem divisor_ev : ∀ b a : Nat, a < 340282366920938463463374607431768211456 → b < 340282366920938463463374607431768211456 →
    Ev (fun k => r1_Divisor.f k (hi a) (lo a) (hi b) (lo b)) (hi (Nat.gcd a b), lo (Nat.gcd a b)) := by
  intro b
  induction b using Nat.strongRecOn with
  | _ b ih =>
    intro a ha hb
    by_cases h : b = 0
    · subst h
      refine ev_some (fun k => ?_); simp only [r1_Divisor.f, r1_Divisor.l0]; rw [Nat.gcd_zero_right, if_neg (by decide)]
    · have hlt : a % b < b := Nat.mod_lt _ (by omega)
      have h2 := ih (a % b) hlt b hb (by omega); rw [show Nat.gcd a b = Nat.gcd b (a % b) from by rw [Nat.gcd_comm a b, Nat.gcd_rec b a, Nat.gcd_comm]]; refine Ev.step (fun k => ?_) (Ev.bind (f := fun k (t : Int × Int × Int × Int) => r1_Divisor.l0 k (hi b) (lo b) t.2.2.1 t.2.2.2) (divide_ev a b ha hb (by omega)) h2); simp only [r1_Divisor.f, r1_Divisor.l0]; rw [if_pos]; have : ¬ (hi b = 0 ∧ lo b = 0) := by unfold hi lo; omega
      by_cases hh : hi b = 0
      · have hl : ¬ lo b = 0 := fun hl => this ⟨hh, hl⟩
        simp [hl]
      · simp [hh]
end Go.Proofs.Ytcbohbeipgcfhaa.Mth
