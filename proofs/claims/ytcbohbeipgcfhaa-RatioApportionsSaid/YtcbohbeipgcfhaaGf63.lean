-- Printed by gp.py (a program of this session's own, over the kit's printer) out of the translation; Lean checks it.
import Derived.Test.YtcbohbeipgcfhaaG0
import Derived.Test.YtcbohbeipgcfhaaGf70
import Derived.Test.YtcbohbeipgcfhaaGf71
import Derived.Test.YtcbohbeipgcfhaaGf75
namespace Go.Proofs.Ytcbohbeipgcfhaa.G
open Go.Proofs.Ytcbohbeipgcfhaa.Given Go.Proofs.Ytcbohbeipgcfhaa.Short
open Go.RowKit Go.Proofs.YtcbohbeipgcfhaaW.PrintWords Go.Proofs.YtcbohbeipgcfhaaW.PrintLast Go.Proofs.YtcbohbeipgcfhaaW.PrintMore
attribute [local go_sem] max2_int min2_int max_two min_two max_three min_three max_four min_four   -- for this text's walks alone
set_option linter.unusedVariables false
set_option linter.unusedSimpArgs false

/-! ### awardingbodyref01_Divide: function 63 -/
mutual
def awardingbodyref01_Divide.j0 : Nat → Bool → Int → Int → Int → Int → Option (Int × Int × Int × Int)
  | 0, _, _, _, _, _ => none
  | k + 1, x18, x219000, x219001, x220000, x220001 => if x18 = true then (if x220001 = 0 then (none) else (some (0, IntKind.u64.wrap (Int.tdiv x219001 x220001), 0, Int.tmod x219001 x220001))) else (awardingbodyref01_Divide.l0 k 127 x219000 x219001 x220000 x220001 0 0 0 0)
def awardingbodyref01_Divide.l0 : Nat → Int → Int → Int → Int → Int → Int → Int → Int → Int → Option (Int × Int × Int × Int)
  | 0, _, _, _, _, _, _, _, _, _ => none
  | k + 1, x8, x219000, x219001, x220000, x220001, x223000, x223001, x224000, x224001 => if x8 ≥ 0 then (if 0 ≤ (IntKind.u64.wrap (Int.tmod x8 64)) then (if x8 ≥ 64 then (if 0 ≤ (IntKind.u64.wrap (wrap64 (x8 - 64))) then (awardingbodyref01_Divide.j2 k x8 (Go.bits .and .u64 (shr .u64 x219000 (IntKind.u64.wrap (wrap64 (x8 - 64)))) 1) x219000 x219001 x220000 x220001 x223000 x223001 x224000 x224001) else (none)) else (awardingbodyref01_Divide.j2 k x8 (Go.bits .and .u64 (shr .u64 x219001 (IntKind.u64.wrap (Int.tmod x8 64))) 1) x219000 x219001 x220000 x220001 x223000 x223001 x224000 x224001)) else (none)) else (some (x223000, x223001, x224000, x224001))
def awardingbodyref01_Divide.j2 : Nat → Int → Int → Int → Int → Int → Int → Int → Int → Int → Int → Option (Int × Int × Int × Int)
  | 0, _, _, _, _, _, _, _, _, _, _ => none
  | k + 1, x8, x9, x219000, x219001, x220000, x220001, x223000, x223001, x224000, x224001 => (awardingbodyref01_Twice.f x224000 x224001).bind fun bt224 => ((awardingbodyref01_Twice.f x223000 x223001).bind fun bt226 => (if (x224000 / 9223372036854775808) = 1 then ((awardingbodyref01_Minus.f bt224.1 (Go.bits .or .u64 bt224.2 x9) x220000 x220001).bind fun bt228 => (awardingbodyref01_Divide.l0 k (wrap64 (x8 - 1)) x219000 x219001 x220000 x220001 bt226.1 (Go.bits .or .u64 bt226.2 1) bt228.1 bt228.2)) else ((awardingbodyref01_Order.f k bt224.1 (Go.bits .or .u64 bt224.2 x9) x220000 x220001).bind fun t230 => (if t230 ≥ 0 then ((awardingbodyref01_Minus.f bt224.1 (Go.bits .or .u64 bt224.2 x9) x220000 x220001).bind fun bt231 => (awardingbodyref01_Divide.l0 k (wrap64 (x8 - 1)) x219000 x219001 x220000 x220001 bt226.1 (Go.bits .or .u64 bt226.2 1) bt231.1 bt231.2)) else (awardingbodyref01_Divide.l0 k (wrap64 (x8 - 1)) x219000 x219001 x220000 x220001 bt226.1 bt226.2 bt224.1 (Go.bits .or .u64 bt224.2 x9))))))
end
def awardingbodyref01_Divide.f (k : Nat) (a0_0 : Int) (a0_1 : Int) (a1_0 : Int) (a1_1 : Int) : Option (Int × Int × Int × Int) := if a0_0 = 0 then (awardingbodyref01_Divide.j0 k (a1_0 == 0) a0_0 a0_1 a1_0 a1_1) else (awardingbodyref01_Divide.j0 k false a0_0 a0_1 a1_0 a1_1)
theorem awardingbodyref01_Divide.mono_l : ∀ k, (∀ y0 y1 y2 y3 y4, LeO (awardingbodyref01_Divide.j0 k y0 y1 y2 y3 y4) (awardingbodyref01_Divide.j0 (k + 1) y0 y1 y2 y3 y4)) ∧ (∀ y0 y1 y2 y3 y4 y5 y6 y7 y8, LeO (awardingbodyref01_Divide.l0 k y0 y1 y2 y3 y4 y5 y6 y7 y8) (awardingbodyref01_Divide.l0 (k + 1) y0 y1 y2 y3 y4 y5 y6 y7 y8)) ∧ (∀ y0 y1 y2 y3 y4 y5 y6 y7 y8 y9, LeO (awardingbodyref01_Divide.j2 k y0 y1 y2 y3 y4 y5 y6 y7 y8 y9) (awardingbodyref01_Divide.j2 (k + 1) y0 y1 y2 y3 y4 y5 y6 y7 y8 y9))
  | 0 => ⟨fun _ _ _ _ _ r h => by simp [awardingbodyref01_Divide.j0] at h, fun _ _ _ _ _ _ _ _ _ r h => by simp [awardingbodyref01_Divide.l0] at h, fun _ _ _ _ _ _ _ _ _ _ r h => by simp [awardingbodyref01_Divide.j2] at h⟩
  | k + 1 => by
    obtain ⟨ih0, ih1, ih2⟩ := awardingbodyref01_Divide.mono_l k
    refine ⟨?_, ?_, ?_⟩
    · intro y0 y1 y2 y3 y4
      unfold awardingbodyref01_Divide.j0
      repeat' first
      | (with_reducible exact ih0 _ _ _ _ _)
      | (with_reducible exact ih1 _ _ _ _ _ _ _ _ _)
      | (with_reducible exact ih2 _ _ _ _ _ _ _ _ _ _)
      | (with_reducible exact awardingbodyref01_Order.mono _ _ _ _ _)
      | (with_reducible exact LeO.refl _)
      | (with_reducible exact LeO.none _)
      | (with_reducible refine LeO.ite ?_ ?_)
      | (with_reducible refine LeO.bind ?_ (fun _ => ?_))
      | exact ih0 _ _ _ _ _
      | exact ih1 _ _ _ _ _ _ _ _ _
      | exact ih2 _ _ _ _ _ _ _ _ _ _
      | exact awardingbodyref01_Order.mono _ _ _ _ _
      | exact LeO.none _
      | refine LeO.ite ?_ ?_
      | refine LeO.bind ?_ (fun _ => ?_)
    · intro y0 y1 y2 y3 y4 y5 y6 y7 y8
      unfold awardingbodyref01_Divide.l0
      repeat' first
      | (with_reducible exact ih0 _ _ _ _ _)
      | (with_reducible exact ih1 _ _ _ _ _ _ _ _ _)
      | (with_reducible exact ih2 _ _ _ _ _ _ _ _ _ _)
      | (with_reducible exact awardingbodyref01_Order.mono _ _ _ _ _)
      | (with_reducible exact LeO.refl _)
      | (with_reducible exact LeO.none _)
      | (with_reducible refine LeO.ite ?_ ?_)
      | (with_reducible refine LeO.bind ?_ (fun _ => ?_))
      | exact ih0 _ _ _ _ _
      | exact ih1 _ _ _ _ _ _ _ _ _
      | exact ih2 _ _ _ _ _ _ _ _ _ _
      | exact awardingbodyref01_Order.mono _ _ _ _ _
      | exact LeO.none _
      | refine LeO.ite ?_ ?_
      | refine LeO.bind ?_ (fun _ => ?_)
    · intro y0 y1 y2 y3 y4 y5 y6 y7 y8 y9
      unfold awardingbodyref01_Divide.j2
      repeat' first
      | (with_reducible exact ih0 _ _ _ _ _)
      | (with_reducible exact ih1 _ _ _ _ _ _ _ _ _)
      | (with_reducible exact ih2 _ _ _ _ _ _ _ _ _ _)
      | (with_reducible exact awardingbodyref01_Order.mono _ _ _ _ _)
      | (with_reducible exact LeO.refl _)
      | (with_reducible exact LeO.none _)
      | (with_reducible refine LeO.ite ?_ ?_)
      | (with_reducible refine LeO.bind ?_ (fun _ => ?_))
      | exact ih0 _ _ _ _ _
      | exact ih1 _ _ _ _ _ _ _ _ _
      | exact ih2 _ _ _ _ _ _ _ _ _ _
      | exact awardingbodyref01_Order.mono _ _ _ _ _
      | exact LeO.none _
      | refine LeO.ite ?_ ?_
      | refine LeO.bind ?_ (fun _ => ?_)
theorem awardingbodyref01_Divide.mono : ∀ a0 a1 a2 a3 k, LeO (awardingbodyref01_Divide.f k a0 a1 a2 a3) (awardingbodyref01_Divide.f (k + 1) a0 a1 a2 a3) := by
  intro a0 a1 a2 a3 k
  obtain ⟨ih0, ih1, ih2⟩ := awardingbodyref01_Divide.mono_l k
  unfold awardingbodyref01_Divide.f
  repeat' first
      | (with_reducible exact ih0 _ _ _ _ _)
      | (with_reducible exact ih1 _ _ _ _ _ _ _ _ _)
      | (with_reducible exact ih2 _ _ _ _ _ _ _ _ _ _)
      | (with_reducible exact awardingbodyref01_Order.mono _ _ _ _ _)
      | (with_reducible exact LeO.refl _)
      | (with_reducible exact LeO.none _)
      | (with_reducible refine LeO.ite ?_ ?_)
      | (with_reducible refine LeO.bind ?_ (fun _ => ?_))
      | exact ih0 _ _ _ _ _
      | exact ih1 _ _ _ _ _ _ _ _ _
      | exact ih2 _ _ _ _ _ _ _ _ _ _
      | exact awardingbodyref01_Order.mono _ _ _ _ _
      | exact LeO.none _
      | refine LeO.ite ?_ ?_
      | refine LeO.bind ?_ (fun _ => ?_)
def awardingbodyref01_Divide.T2 : Bool × List (List Nat × List Nat) := (true, [([], []), ([0], [0]), ([], []), ([2], [2]), ([1, 3], [1, 3]), ([4], [4]), ([], []), ([6], [6]), ([], []), ([8], [8]), ([7, 9], [7, 9]), ([10], [10]), ([5, 0, 1, 2, 3, 4, 5], [5]), ([11, 12, 0, 1, 2, 3, 4, 5, 6, 7, 8, 9, 10, 11, 12], [11])])
def awardingbodyref01_Divide.B2 : List Nat := [0, 1, 0, 4, 15, 31, 0, 64, 0, 256, 960, 1984, 63, 8191]
theorem awardingbodyref01_Divide.tab2 : rtab .any (opsOf Try.f63 2) = awardingbodyref01_Divide.T2 := by kernel_rfl
theorem awardingbodyref01_Divide.bits2 : waitsOk awardingbodyref01_Divide.T2.2 awardingbodyref01_Divide.B2 = true := by kernel_rfl
set_option maxHeartbeats 8000000 in
set_option maxRecDepth 100000 in
theorem awardingbodyref01_Divide.calls (k : Nat) (a0_0 : Int) (a0_1 : Int) (a1_0 : Int) (a1_1 : Int) (r1 : Int) (r2 : Int) (r3 : Int) (r4 : Int) (w : World) (h : awardingbodyref01_Divide.f k a0_0 a0_1 a1_0 a1_1 = some (r1, r2, r3, r4)) :
    Calls Try.prog 63 #[.agg #[.int .u64 a0_0, .int .u64 a0_1], .agg #[.int .u64 a1_0, .int .u64 a1_1]] w fun e w' => e = .returned (.tuple #[.agg #[.int .u64 r1, .int .u64 r2], .agg #[.int .u64 r3, .int .u64 r4]]) ∧ Below w.heap.size w w' := by
  have hu61 := Try.underlying61
  have HB := Aside0.mk (Below.refl w.heap.size w)
  have H : (if a0_0 = 0 then (awardingbodyref01_Divide.j0 k (a1_0 == 0) a0_0 a0_1 a1_0 a1_1) else (awardingbodyref01_Divide.j0 k false a0_0 a0_1 a1_0 a1_1)) = some (r1, r2, r3, r4) := h
  clear h
  have HC3 := Aside0.mk H
  clear H
  go_enter Try.func63, Try.ntmps63
  go_upto_region 1 with (first | ((with_reducible refine gate_dst (N := 2) rfl ?_); refine box_event ?hg (N := 2) ?hd (cs := #[.int .u64 a0_0, .int .u64 a0_1]) (t := 61) ?hr ?_; (case hd => rfl); (case hg => rfl); (case hr => first | (go_simp; done) | (go_simp; rfl)); intro gb218 hg w4 hbox hb; have BK218 := Aside0.mk (hbox); have GW218 := gs HB hg; have GE218 := gs HB hg; replace HB := wb HB hb; clear hb hbox hg) | ((with_reducible refine gate_dst (N := 3) rfl ?_); refine box_event ?hg (N := 3) ?hd (cs := #[.int .u64 a1_0, .int .u64 a1_1]) (t := 61) ?hr ?_; (case hd => rfl); (case hg => rfl); (case hr => first | (go_simp; done) | (go_simp; rfl)); intro gb219 hg w5 hbox hb; have BK219 := Aside0.mk (hbox); have GW219 := gs HB hg; have GE219 := gs HB hg; have NB218_219 := nl BK218 hg; have NB219_218 := nr BK218 hg; replace BK218 := kb BK218 hb; replace HB := wb HB hb; clear hb hbox hg) | ((with_reducible refine gate_dst (N := 4) rfl ?_); refine box_event ?hg (N := 4) ?hd (cs := #[.int .u64 0, .int .u64 0]) (t := 61) ?hr ?_; (case hd => rfl); (case hg => rfl); (case hr => first | (go_simp; done) | (go_simp; rfl)); intro gb220 hg w6 hbox hb; have BK220 := Aside0.mk (hbox); have GW220 := gs HB hg; have GE220 := gs HB hg; have NB218_220 := nl BK218 hg; have NB220_218 := nr BK218 hg; have NB219_220 := nl BK219 hg; have NB220_219 := nr BK219 hg; replace BK218 := kb BK218 hb; replace BK219 := kb BK219 hb; replace HB := wb HB hb; clear hb hbox hg) | ((with_reducible refine gate_dst (N := 5) rfl ?_); refine box_event ?hg (N := 5) ?hd (cs := #[.int .u64 0, .int .u64 0]) (t := 61) ?hr ?_; (case hd => rfl); (case hg => rfl); (case hr => first | (go_simp; done) | (go_simp; rfl)); intro gb221 hg w7 hbox hb; have BK221 := Aside0.mk (hbox); have GW221 := gs HB hg; have GE221 := gs HB hg; have NB218_221 := nl BK218 hg; have NB221_218 := nr BK218 hg; have NB219_221 := nl BK219 hg; have NB221_219 := nr BK219 hg; have NB220_221 := nl BK220 hg; have NB221_220 := nr BK220 hg; replace BK218 := kb BK218 hb; replace BK219 := kb BK219 hb; replace BK220 := kb BK220 hb; replace HB := wb HB hb; clear hb hbox hg))
  (try simp only [Act.put, List.setIfInBounds_toArray, List.set_cons_zero, List.set_cons_succ])
  go_cut [18] (fun v18 wc => ∃ (kq : Nat) (x18_2 : Bool), v18 = .bool x18_2 ∧ Aside0 (awardingbodyref01_Divide.j0 kq x18_2 a0_0 a0_1 a1_0 a1_1 = some (r1, r2, r3, r4)) ∧ Aside0 (kq ≤ k) ∧ Aside0 (wc.heap[gb218]? = some (.cells #[.int .u64 a0_0, .int .u64 a0_1] 61 (0, 0))) ∧ Aside0 (wc.heap[gb219]? = some (.cells #[.int .u64 a1_0, .int .u64 a1_1] 61 (0, 0))) ∧ Aside0 (wc.heap[gb220]? = some (.cells #[.int .u64 0, .int .u64 0] 61 (0, 0))) ∧ Aside0 (wc.heap[gb221]? = some (.cells #[.int .u64 0, .int .u64 0] 61 (0, 0))) ∧ Aside0 (Below w.heap.size w wc))
  case first =>
    have H := HC3.out
    clear HC3
    by_cases c8 : a0_0 = 0
    · rw [if_pos c8] at H
      have c8b0 : (a0_0 == 0) = true := beq_iff_eq.mpr c8
      have c8b1 : (a0_0 != 0) = false := bne_eq_false_iff_eq.mpr c8
      clear c8
      (first | rw [c8b0] | (simp only [i64_w, i32_w]; rw [c8b0]) | skip)
      have H' := Aside0.mk H
      clear H
      obtain ⟨hnb9, hnc9⟩ := n2 NB218_219
      obtain ⟨hnb10, hnc10⟩ := n2 NB218_220
      obtain ⟨hnb11, hnc11⟩ := n2 NB218_221
      have hcz12_0 : w7.cell? ⟨gb218, 0, none⟩ = some (.int .u64 a0_0) := (blk_cell BK218.out 0).trans rfl
      have hcz12_1 : w7.cell? ⟨gb218, 1, none⟩ = some (.int .u64 a0_1) := (blk_cell BK218.out 1).trans rfl
      have hfz12_0 := blk_frozen BK218.out 0
      have hfz12_1 := blk_frozen BK218.out 1
      obtain ⟨hnb13, hnc13⟩ := n2 NB219_220
      obtain ⟨hnb14, hnc14⟩ := n2 NB219_221
      have hcz15_0 : w7.cell? ⟨gb219, 0, none⟩ = some (.int .u64 a1_0) := (blk_cell BK219.out 0).trans rfl
      have hcz15_1 : w7.cell? ⟨gb219, 1, none⟩ = some (.int .u64 a1_1) := (blk_cell BK219.out 1).trans rfl
      have hfz15_0 := blk_frozen BK219.out 0
      have hfz15_1 := blk_frozen BK219.out 1
      go_wp2
      go_meet
      case rel => exact ⟨_, ((a1_0 == 0)), (by first | rfl | (simp; done) | (simp [*]; done)), H', ⟨by first | omega | exact Nat.le_refl _⟩, ⟨bq BK218⟩, ⟨bq BK219⟩, ⟨bq BK220⟩, ⟨bq BK221⟩, ⟨bw HB⟩⟩
    · rw [if_neg c8] at H
      have c8b0 : (a0_0 == 0) = false := beq_eq_false_iff_ne.mpr c8
      have c8b1 : (a0_0 != 0) = true := bne_iff_ne.mpr c8
      (first | rw [c8b0] | (simp only [i64_w, i32_w]; rw [c8b0]) | skip)
      have H' := Aside0.mk H
      clear H
      obtain ⟨hnb16, hnc16⟩ := n2 NB218_219
      obtain ⟨hnb17, hnc17⟩ := n2 NB218_220
      obtain ⟨hnb18, hnc18⟩ := n2 NB218_221
      have hcz19_0 : w7.cell? ⟨gb218, 0, none⟩ = some (.int .u64 a0_0) := (blk_cell BK218.out 0).trans rfl
      have hcz19_1 : w7.cell? ⟨gb218, 1, none⟩ = some (.int .u64 a0_1) := (blk_cell BK218.out 1).trans rfl
      have hfz19_0 := blk_frozen BK218.out 0
      have hfz19_1 := blk_frozen BK218.out 1
      go_wp2
      go_meet
      case rel => exact ⟨_, (false), (by first | rfl | (simp; done) | (simp [*]; done)), H', ⟨by first | omega | exact Nat.le_refl _⟩, ⟨bq BK218⟩, ⟨bq BK219⟩, ⟨bq BK220⟩, ⟨bq BK221⟩, ⟨bw HB⟩⟩
  case rest =>
    clear HC3
    try clear c1
    try clear p2
    try clear c6
    try clear c8
    try clear c8b0
    try clear c8b1
    try clear c9
    try clear c10
    try clear c11
    try clear c13
    try clear c14
    try clear c16
    try clear c17
    try clear c18
    try clear hcz12_0
    try clear hcz12_1
    try clear hcz15_0
    try clear hcz15_1
    try clear hcz19_0
    try clear hcz19_1
    try clear hfz12_0
    try clear hfz12_1
    try clear hfz15_0
    try clear hfz15_1
    try clear hfz19_0
    try clear hfz19_1
    obtain ⟨kq, x18_2, rfl, HA, HJ2, BK218, BK219, BK220, BK221, HB⟩ := hcut
    cases kq with
    | zero => exact absurd HA.out (by simp [awardingbodyref01_Divide.j0])
    | succ kj2 =>
      have H := HA.out
      clear HA
      simp only [awardingbodyref01_Divide.j0] at H
      by_cases c20 : x18_2 = true
      · subst c20
        have H1 : (if a1_1 = 0 then (none) else (some (0, IntKind.u64.wrap (Int.tdiv a0_1 a1_1), 0, Int.tmod a0_1 a1_1))) = some (r1, r2, r3, r4) := by rw [if_pos rfl] at H; exact H
        clear H
        have H := H1
        clear H1
        by_cases c21 : a1_1 = 0
        · rw [if_pos c21] at H
          exact absurd H (by simp)
        · rw [if_neg c21] at H
          have c21b0 : (a1_1 == 0) = false := beq_eq_false_iff_ne.mpr c21
          have c21b1 : (a1_1 != 0) = true := bne_iff_ne.mpr c21
          simp only [Option.some.injEq, Prod.mk.injEq] at H
          obtain ⟨rfl, rfl, rfl, rfl⟩ := H
          try go_wp2
          have n0_ := Aside0.mk (blk_drew BK218.out)
          have n1_ := Aside0.mk (blk_drew BK219.out)
          have n2_ := Aside0.mk (blk_drew BK220.out)
          have n3_ := Aside0.mk (blk_drew BK221.out)
          have n4_ := Aside0.mk (below_drew1 HB.out)
          clear BK218
          clear BK219
          clear BK220
          clear BK221
          clear HB
          have BK218 := n0_
          have BK219 := n1_
          have BK220 := n2_
          have BK221 := n3_
          have HB := n4_
          clear n0_ n1_ n2_ n3_ n4_
          refine start_ (n := 14) (S := fun w' => w'.cell? ⟨gb218, 0, none⟩ = some (.int .u64 a0_0) ∧ w'.cell? ⟨gb218, 1, none⟩ = some (.int .u64 a0_1) ∧ w'.cell? ⟨gb219, 0, none⟩ = some (.int .u64 a1_0) ∧ w'.cell? ⟨gb219, 1, none⟩ = some (.int .u64 a1_1)) (ds := []) #[false, false, false, false, false, false, false, false, false, false, false, false, false, false] (by kernel_rfl) rfl rfl ⟨(blk_cell BK218.out 0).trans rfl, (blk_cell BK218.out 1).trans rfl, (blk_cell BK219.out 0).trans rfl, (blk_cell BK219.out 1).trans rfl⟩ (fun hHeld => ?_); refine with_tabW awardingbodyref01_Divide.tab2 awardingbodyref01_Divide.bits2 (fun HT_ HW_ => ?_)
          generalize wc.drew = w22 at BK218 BK219 BK220 BK221 HB hHeld ⊢
          refine pure_ (i := 0) (N := some 19) (v := ?_) (a' := ?_) #[true, false, false, false, false, false, false, false, false, false, false, false, false, false] rfl rfl (any_of HT_.out (by kernel_rfl)) (fun _ _ _ h => h) (Or.inl ⟨by rfl, ?_⟩) ?_ ?_
          rotate_left
          · intro w'
            go_simp
            with_reducible rfl
          rotate_left
          · simp only [Act.put, List.setIfInBounds_toArray, List.set_cons_zero, List.set_cons_succ, i64_w, i32_w]
            rfl
          refine pure_ (i := 2) (N := some 21) (v := ?_) (a' := ?_) #[true, false, true, false, false, false, false, false, false, false, false, false, false, false] rfl rfl (any_of HT_.out (by kernel_rfl)) (fun _ _ _ h => h) (Or.inl ⟨by rfl, ?_⟩) ?_ ?_
          rotate_left
          · intro w'
            go_simp
            with_reducible rfl
          rotate_left
          · simp only [Act.put, List.setIfInBounds_toArray, List.set_cons_zero, List.set_cons_succ, i64_w, i32_w]
            rfl
          refine pure_ (i := 6) (N := some 25) (v := ?_) (a' := ?_) #[true, false, true, false, false, false, true, false, false, false, false, false, false, false] rfl rfl (any_of HT_.out (by kernel_rfl)) (fun _ _ _ h => h) (Or.inl ⟨by rfl, ?_⟩) ?_ ?_
          rotate_left
          · intro w'
            go_simp
            with_reducible rfl
          rotate_left
          · simp only [Act.put, List.setIfInBounds_toArray, List.set_cons_zero, List.set_cons_succ, i64_w, i32_w]
            rfl
          refine pure_ (i := 8) (N := some 27) (v := ?_) (a' := ?_) #[true, false, true, false, false, false, true, false, true, false, false, false, false, false] rfl rfl (any_of HT_.out (by kernel_rfl)) (fun _ _ _ h => h) (Or.inl ⟨by rfl, ?_⟩) ?_ ?_
          rotate_left
          · intro w'
            go_simp
            with_reducible rfl
          rotate_left
          · simp only [Act.put, List.setIfInBounds_toArray, List.set_cons_zero, List.set_cons_succ, i64_w, i32_w]
            rfl
          refine take_ (i := 1) (N := some 20) (v := ?_) (a' := ?_) #[true, true, true, false, false, false, true, false, true, false, false, false, false, false] rfl rfl (take_ofW HT_.out HW_.out (by kernel_rfl)) (fun _ _ _ h => h) (Or.inl ⟨by rfl, ?_⟩) hHeld ?_ ?_
          rotate_left
          · rintro w' ⟨s0, s1, s2, s3⟩
            go_simp
            with_reducible rfl
          rotate_left
          · simp only [Act.put, List.setIfInBounds_toArray, List.set_cons_zero, List.set_cons_succ, i64_w, i32_w]
            rfl
          refine take_ (i := 3) (N := some 22) (v := ?_) (a' := ?_) #[true, true, true, true, false, false, true, false, true, false, false, false, false, false] rfl rfl (take_ofW HT_.out HW_.out (by kernel_rfl)) (fun _ _ _ h => h) (Or.inl ⟨by rfl, ?_⟩) hHeld ?_ ?_
          rotate_left
          · rintro w' ⟨s0, s1, s2, s3⟩
            go_simp
            with_reducible rfl
          rotate_left
          · simp only [Act.put, List.setIfInBounds_toArray, List.set_cons_zero, List.set_cons_succ, i64_w, i32_w]
            rfl
          refine pure_ (i := 4) (N := some 23) (v := ?_) (a' := ?_) #[true, true, true, true, true, false, true, false, true, false, false, false, false, false] rfl rfl (any_of HT_.out (by kernel_rfl)) (fun _ _ _ h => h) (Or.inl ⟨by rfl, ?_⟩) ?_ ?_
          rotate_left
          · intro w'
            go_simp
            with_reducible rfl
          rotate_left
          · simp only [Act.put, List.setIfInBounds_toArray, List.set_cons_zero, List.set_cons_succ, i64_w, i32_w]
            rfl
          refine pure_ (i := 5) (N := some 24) (v := ?_) (a' := ?_) #[true, true, true, true, true, true, true, false, true, false, false, false, false, false] rfl rfl (any_of HT_.out (by kernel_rfl)) (fun _ _ _ h => h) (Or.inl ⟨by rfl, ?_⟩) ?_ ?_
          rotate_left
          · intro w'
            go_simp
            with_reducible rfl
          rotate_left
          · simp only [Act.put, List.setIfInBounds_toArray, List.set_cons_zero, List.set_cons_succ, i64_w, i32_w]
            rfl
          refine take_ (i := 7) (N := some 26) (v := ?_) (a' := ?_) #[true, true, true, true, true, true, true, true, true, false, false, false, false, false] rfl rfl (take_ofW HT_.out HW_.out (by kernel_rfl)) (fun _ _ _ h => h) (Or.inl ⟨by rfl, ?_⟩) hHeld ?_ ?_
          rotate_left
          · rintro w' ⟨s0, s1, s2, s3⟩
            go_simp
            with_reducible rfl
          rotate_left
          · simp only [Act.put, List.setIfInBounds_toArray, List.set_cons_zero, List.set_cons_succ, i64_w, i32_w]
            rfl
          refine take_ (i := 9) (N := some 28) (v := ?_) (a' := ?_) #[true, true, true, true, true, true, true, true, true, true, false, false, false, false] rfl rfl (take_ofW HT_.out HW_.out (by kernel_rfl)) (fun _ _ _ h => h) (Or.inl ⟨by rfl, ?_⟩) hHeld ?_ ?_
          rotate_left
          · rintro w' ⟨s0, s1, s2, s3⟩
            go_simp
            with_reducible rfl
          rotate_left
          · simp only [Act.put, List.setIfInBounds_toArray, List.set_cons_zero, List.set_cons_succ, i64_w, i32_w]
            rfl
          refine pure_ (i := 10) (N := some 29) (v := ?_) (a' := ?_) #[true, true, true, true, true, true, true, true, true, true, true, false, false, false] rfl rfl (any_of HT_.out (by kernel_rfl)) (fun _ _ _ h => h) (Or.inl ⟨by rfl, ?_⟩) ?_ ?_
          rotate_left
          · intro w'
            go_simp
            with_reducible rfl
          rotate_left
          · simp only [Act.put, List.setIfInBounds_toArray, List.set_cons_zero, List.set_cons_succ, i64_w, i32_w]
            rfl
          refine pure_ (i := 11) (N := some 30) (v := ?_) (a' := ?_) #[true, true, true, true, true, true, true, true, true, true, true, true, false, false] rfl rfl (any_of HT_.out (by kernel_rfl)) (fun _ _ _ h => h) (Or.inl ⟨by rfl, ?_⟩) ?_ ?_
          rotate_left
          · intro w'
            go_simp
            with_reducible rfl
          rotate_left
          · simp only [Act.put, List.setIfInBounds_toArray, List.set_cons_zero, List.set_cons_succ, i64_w, i32_w]
            rfl
          refine one_ (i := 12) (N := none) #[true, true, true, true, true, true, true, true, true, true, true, true, true, false] rfl rfl (one_of HT_.out (by kernel_rfl)) (by decide) (fun K hK => ?_)
          have hs23 : w22.cell? ⟨gb220, 0, none⟩ = some (.int .u64 0) := (blk_cell BK220.out 0).trans rfl
          have hfs23 := blk_frozen BK220.out 0
          have hns23_0 := NB218_220.out
          have hns23_1 := NB219_220.out
          have hns23_3 := NB221_220.out
          have hms23_0 := NB220_218.out
          have hms23_1 := NB220_219.out
          have hms23_3 := NB220_221.out
          have hs24 : w22.cell? ⟨gb220, 1, none⟩ = some (.int .u64 0) := (blk_cell BK220.out 1).trans rfl
          have hfs24 := blk_frozen BK220.out 1
          have hns24_0 := NB218_220.out
          have hns24_1 := NB219_220.out
          have hns24_3 := NB221_220.out
          have hms24_0 := NB220_218.out
          have hms24_1 := NB220_219.out
          have hms24_3 := NB220_221.out
          refine skip_ (w1 := ?_) (by rfl) rfl ?_ ?_
          rotate_left
          · go_simp
            rfl
          refine hK.out _ _ ⟨((cell_far (p := ⟨gb220, _, none⟩) NB218_220.out _).trans (((cell_far (p := ⟨gb220, _, none⟩) NB218_220.out _).trans (hHeld.1)))), ((cell_far (p := ⟨gb220, _, none⟩) NB218_220.out _).trans (((cell_far (p := ⟨gb220, _, none⟩) NB218_220.out _).trans (hHeld.2.1)))), ((cell_far (p := ⟨gb220, _, none⟩) NB219_220.out _).trans (((cell_far (p := ⟨gb220, _, none⟩) NB219_220.out _).trans (hHeld.2.2.1)))), ((cell_far (p := ⟨gb220, _, none⟩) NB219_220.out _).trans (((cell_far (p := ⟨gb220, _, none⟩) NB219_220.out _).trans (hHeld.2.2.2))))⟩ (fun hHeld => ?_)
          clear hK K
          refine one_ (i := 13) (N := none) #[true, true, true, true, true, true, true, true, true, true, true, true, true, true] rfl rfl (one_of HT_.out (by kernel_rfl)) (by decide) (fun K hK => ?_)
          have hs25 : w22.cell? ⟨gb221, 0, none⟩ = some (.int .u64 0) := (blk_cell BK221.out 0).trans rfl
          have hfs25 := blk_frozen BK221.out 0
          have hns25_0 := NB218_221.out
          have hns25_1 := NB219_221.out
          have hns25_2 := NB220_221.out
          have hms25_0 := NB221_218.out
          have hms25_1 := NB221_219.out
          have hms25_2 := NB221_220.out
          have hs26 : w22.cell? ⟨gb221, 1, none⟩ = some (.int .u64 0) := (blk_cell BK221.out 1).trans rfl
          have hfs26 := blk_frozen BK221.out 1
          have hns26_0 := NB218_221.out
          have hns26_1 := NB219_221.out
          have hns26_2 := NB220_221.out
          have hms26_0 := NB221_218.out
          have hms26_1 := NB221_219.out
          have hms26_2 := NB221_220.out
          refine skip_ (w1 := ?_) (by rfl) rfl ?_ ?_
          rotate_left
          · go_simp
            rfl
          refine hK.out _ _ ⟨((cell_far (p := ⟨gb221, _, none⟩) NB218_221.out _).trans (((cell_far (p := ⟨gb221, _, none⟩) NB218_221.out _).trans (hHeld.1)))), ((cell_far (p := ⟨gb221, _, none⟩) NB218_221.out _).trans (((cell_far (p := ⟨gb221, _, none⟩) NB218_221.out _).trans (hHeld.2.1)))), ((cell_far (p := ⟨gb221, _, none⟩) NB219_221.out _).trans (((cell_far (p := ⟨gb221, _, none⟩) NB219_221.out _).trans (hHeld.2.2.1)))), ((cell_far (p := ⟨gb221, _, none⟩) NB219_221.out _).trans (((cell_far (p := ⟨gb221, _, none⟩) NB219_221.out _).trans (hHeld.2.2.2))))⟩ (fun hHeld => ?_)
          clear hK K
          refine done_ (done_of HT_.out (by kernel_rfl)) ?_
          try go_wp2
          refine bodyPost_ret (results_cc rfl _ _ gb220 gb221 61 61 #[.int .u64 0, .int .u64 (IntKind.u64.wrap (Int.tdiv a0_1 a1_1))] #[.int .u64 0, .int .u64 (Int.tmod a0_1 a1_1)] (0, 0) (0, 0) _ _ rfl (by refine pe ?_; refine blk_far ?_ NB220_221.out _; refine pe ?_; refine blk_far ?_ NB220_221.out _; refine pe ?_; refine blk_put (cs := #[.int .u64 0, .int .u64 0]) ?_ 1 _ rfl; refine pe ?_; refine blk_put (cs := #[.int .u64 0, .int .u64 0]) ?_ 0 _ rfl; refine pe ?_; exact BK220.out) Try.underlying61 rfl (by kernel_rfl) rfl (by refine pe ?_; refine blk_put (cs := #[.int .u64 0, .int .u64 0]) ?_ 1 _ rfl; refine pe ?_; refine blk_put (cs := #[.int .u64 0, .int .u64 0]) ?_ 0 _ rfl; refine pe ?_; refine blk_far ?_ NB221_220.out _; refine pe ?_; refine blk_far ?_ NB221_220.out _; refine pe ?_; exact BK221.out) Try.underlying61 rfl (by kernel_rfl)) rfl ?_
          exact ⟨by first | rfl | (simp [errW_none, errW_some] <;> rfl) | (simp [*, errW_none, errW_some] <;> rfl), bw HB⟩
      · replace c20 := Bool.eq_false_iff.mpr c20
        subst c20
        have H1 : (awardingbodyref01_Divide.l0 kj2 127 a0_0 a0_1 a1_0 a1_1 0 0 0 0) = some (r1, r2, r3, r4) := by rw [if_neg (show ¬ (false = true) by decide)] at H; exact H
        clear H
        have H := H1
        clear H1
        have H' := Aside0.mk H
        clear H
        go_wp2_with (first | ((with_reducible refine gate_dst (N := 6) rfl ?_); refine box_event ?hg (N := 6) ?hd (cs := #[.int .u64 0, .int .u64 0]) (t := 61) ?hr ?_; (case hd => rfl); (case hg => rfl); (case hr => first | (go_simp; done) | (go_simp; rfl)); intro gb222 hg w27 hbox hb; have BK222 := Aside0.mk (hbox); have GW222 := gs HB hg; have GE222 := gs HB hg; have NB218_222 := nl BK218 hg; have NB222_218 := nr BK218 hg; have NB219_222 := nl BK219 hg; have NB222_219 := nr BK219 hg; have NB220_222 := nl BK220 hg; have NB222_220 := nr BK220 hg; have NB221_222 := nl BK221 hg; have NB222_221 := nr BK221 hg; replace BK218 := kb BK218 hb; replace BK219 := kb BK219 hb; replace BK220 := kb BK220 hb; replace BK221 := kb BK221 hb; replace HB := wb HB hb; clear hb hbox hg) | ((with_reducible refine gate_dst (N := 7) rfl ?_); refine box_event ?hg (N := 7) ?hd (cs := #[.int .u64 0, .int .u64 0]) (t := 61) ?hr ?_; (case hd => rfl); (case hg => rfl); (case hr => first | (go_simp; done) | (go_simp; rfl)); intro gb223 hg w28 hbox hb; have BK223 := Aside0.mk (hbox); have GW223 := gs HB hg; have GE223 := gs HB hg; have NB218_223 := nl BK218 hg; have NB223_218 := nr BK218 hg; have NB219_223 := nl BK219 hg; have NB223_219 := nr BK219 hg; have NB220_223 := nl BK220 hg; have NB223_220 := nr BK220 hg; have NB221_223 := nl BK221 hg; have NB223_221 := nr BK221 hg; have NB222_223 := nl BK222 hg; have NB223_222 := nr BK222 hg; replace BK218 := kb BK218 hb; replace BK219 := kb BK219 hb; replace BK220 := kb BK220 hb; replace BK221 := kb BK221 hb; replace BK222 := kb BK222 hb; replace HB := wb HB hb; clear hb hbox hg; obtain ⟨hnb29, hnc29⟩ := n2 NB222_218; obtain ⟨hnb30, hnc30⟩ := n2 NB222_219; obtain ⟨hnb31, hnc31⟩ := n2 NB222_220; obtain ⟨hnb32, hnc32⟩ := n2 NB222_221; obtain ⟨hnb33, hnc33⟩ := n2 NB222_223; have hcz34_0 : w28.cell? ⟨gb222, 0, none⟩ = some (.int .u64 0) := (blk_cell BK222.out 0).trans rfl; have hcz34_1 : w28.cell? ⟨gb222, 1, none⟩ = some (.int .u64 0) := (blk_cell BK222.out 1).trans rfl; have hfz34_0 := blk_frozen BK222.out 0; have hfz34_1 := blk_frozen BK222.out 1; obtain ⟨hnb35, hnc35⟩ := n2 NB223_218; obtain ⟨hnb36, hnc36⟩ := n2 NB223_219; obtain ⟨hnb37, hnc37⟩ := n2 NB223_220; obtain ⟨hnb38, hnc38⟩ := n2 NB223_221; have hcz39_0 : w28.cell? ⟨gb223, 0, none⟩ = some (.int .u64 0) := (blk_cell BK223.out 0).trans rfl; have hcz39_1 : w28.cell? ⟨gb223, 1, none⟩ = some (.int .u64 0) := (blk_cell BK223.out 1).trans rfl; have hfz39_0 := blk_frozen BK223.out 0; have hfz39_1 := blk_frozen BK223.out 1))
        (try simp only [Act.put, List.setIfInBounds_toArray, List.set_cons_zero, List.set_cons_succ])
        go_loopg [8] kj2 (fun kq v8 w' => ∃ (x8_2 : Int) (x223000_2 : Int) (x223001_2 : Int) (x224000_2 : Int) (x224001_2 : Int), v8 = .int .i64 x8_2 ∧ Aside0 (awardingbodyref01_Divide.l0 kq x8_2 a0_0 a0_1 a1_0 a1_1 x223000_2 x223001_2 x224000_2 x224001_2 = some (r1, r2, r3, r4)) ∧ Aside0 (kq ≤ kj2) ∧ Aside0 (w'.heap[gb218]? = some (.cells #[.int .u64 a0_0, .int .u64 a0_1] 61 (0, 0))) ∧ Aside0 (w'.heap[gb219]? = some (.cells #[.int .u64 a1_0, .int .u64 a1_1] 61 (0, 0))) ∧ Aside0 (w'.heap[gb220]? = some (.cells #[.int .u64 0, .int .u64 0] 61 (0, 0))) ∧ Aside0 (w'.heap[gb221]? = some (.cells #[.int .u64 0, .int .u64 0] 61 (0, 0))) ∧ Aside0 (w'.heap[gb222]? = some (.cells #[.int .u64 x223000_2, .int .u64 x223001_2] 61 (0, 0))) ∧ Aside0 (w'.heap[gb223]? = some (.cells #[.int .u64 x224000_2, .int .u64 x224001_2] 61 (0, 0))) ∧ Aside0 (Below w.heap.size w w'))
        case atStart => exact ⟨(127), (0), (0), (0), (0), (by first | rfl | (simp; done) | (simp [*]; done)), H', ⟨Nat.le_refl _⟩, ⟨bq BK218⟩, ⟨bq BK219⟩, ⟨bq BK220⟩, ⟨bq BK221⟩, ⟨by refine pe ?_; refine blk_far ?_ NB222_223.out _; refine pe ?_; refine blk_far ?_ NB222_223.out _; refine pe ?_; refine blk_put (cs := #[.int .u64 0, .int .u64 0]) ?_ 1 _ rfl; refine pe ?_; refine blk_put (cs := #[.int .u64 0, .int .u64 0]) ?_ 0 _ rfl; refine pe ?_; exact BK222.out⟩, ⟨by refine pe ?_; refine blk_put (cs := #[.int .u64 0, .int .u64 0]) ?_ 1 _ rfl; refine pe ?_; refine blk_put (cs := #[.int .u64 0, .int .u64 0]) ?_ 0 _ rfl; refine pe ?_; refine blk_far ?_ NB223_222.out _; refine pe ?_; refine blk_far ?_ NB223_222.out _; refine pe ?_; exact BK223.out⟩, ⟨bw HB⟩⟩
        case round =>
          clear H'
          try clear c1
          try clear c2
          try clear p2
          try clear c3
          try clear c6
          try clear c8
          try clear c8b0
          try clear c8b1
          try clear c9
          try clear c10
          try clear c11
          try clear c13
          try clear c14
          try clear c16
          try clear c17
          try clear c18
          try clear c20
          try clear c21
          try clear c21b0
          try clear c21b1
          try clear c29
          try clear c30
          try clear c31
          try clear c32
          try clear c33
          try clear c35
          try clear c36
          try clear c37
          try clear c38
          try clear hcz12_0
          try clear hcz12_1
          try clear hcz15_0
          try clear hcz15_1
          try clear hcz19_0
          try clear hcz19_1
          try clear hcz34_0
          try clear hcz34_1
          try clear hcz39_0
          try clear hcz39_1
          try clear hfz12_0
          try clear hfz12_1
          try clear hfz15_0
          try clear hfz15_1
          try clear hfz19_0
          try clear hfz19_1
          try clear hfz34_0
          try clear hfz34_1
          try clear hfz39_0
          try clear hfz39_1
          try clear p2
          obtain ⟨x8_2, x223000_2, x223001_2, x224000_2, x224001_2, rfl, HA, HK2, BK218, BK219, BK220, BK221, BK222, BK223, HB⟩ := hrel
          cases gk with
          | zero => exact absurd HA.out (by simp [awardingbodyref01_Divide.l0])
          | succ k2 =>
            have H := HA.out
            clear HA
            simp only [awardingbodyref01_Divide.l0] at H
            by_cases c40 : x8_2 ≥ 0
            · rw [if_pos c40] at H
              have c40b0 : decide (0 ≤ x8_2) = true := decide_eq_true c40
              clear c40
              obtain ⟨ji41, hji41⟩ : ∃ j_ : Int, (IntKind.u64.wrap (Int.tmod x8_2 64)) = j_ := ⟨_, rfl⟩
              replace H : (if 0 ≤ (ji41) then (if x8_2 ≥ 64 then (if 0 ≤ (IntKind.u64.wrap (wrap64 (x8_2 - 64))) then (awardingbodyref01_Divide.j2 k2 x8_2 (Go.bits .and .u64 (shr .u64 a0_0 (IntKind.u64.wrap (wrap64 (x8_2 - 64)))) 1) a0_0 a0_1 a1_0 a1_1 x223000_2 x223001_2 x224000_2 x224001_2) else (none)) else (awardingbodyref01_Divide.j2 k2 x8_2 (Go.bits .and .u64 (shr .u64 a0_1 (ji41)) 1) a0_0 a0_1 a1_0 a1_1 x223000_2 x223001_2 x224000_2 x224001_2)) else (none)) = some (r1, r2, r3, r4) := by first | (rw [hji41] at H; exact H) | (simp only [hji41] at H ⊢; exact H)
              by_cases c42 : 0 ≤ (ji41)
              · rw [if_pos c42] at H
                have c42b0 := eq_true c42
                have c42b1 : decide (0 ≤ (ji41)) = true := decide_eq_true c42
                clear c42
                obtain ⟨ji43, hji43⟩ : ∃ j_ : Int, (shr .u64 a0_1 (ji41)) = j_ := ⟨_, rfl⟩
                replace H : (if x8_2 ≥ 64 then (if 0 ≤ (IntKind.u64.wrap (wrap64 (x8_2 - 64))) then (awardingbodyref01_Divide.j2 k2 x8_2 (Go.bits .and .u64 (shr .u64 a0_0 (IntKind.u64.wrap (wrap64 (x8_2 - 64)))) 1) a0_0 a0_1 a1_0 a1_1 x223000_2 x223001_2 x224000_2 x224001_2) else (none)) else (awardingbodyref01_Divide.j2 k2 x8_2 (Go.bits .and .u64 (ji43) 1) a0_0 a0_1 a1_0 a1_1 x223000_2 x223001_2 x224000_2 x224001_2)) = some (r1, r2, r3, r4) := by first | (rw [hji43] at H; exact H) | (simp only [hji43] at H ⊢; exact H)
                have hji43_ : (a0_1 / 2 ^ min (ji41).toNat 64) = ji43 := hji43
                have hji43z : (ji41) ≤ 64 → (a0_1 / 2 ^ (ji41).toNat) = ji43 := shr_small hji43
                have HC44 := Aside0.mk H
                clear H
                obtain ⟨hnb45, hnc45⟩ := n2 NB218_219
                obtain ⟨hnb46, hnc46⟩ := n2 NB218_220
                obtain ⟨hnb47, hnc47⟩ := n2 NB218_221
                obtain ⟨hnb48, hnc48⟩ := n2 NB218_222
                obtain ⟨hnb49, hnc49⟩ := n2 NB218_223
                have hcz50_0 : wr.cell? ⟨gb218, 0, none⟩ = some (.int .u64 a0_0) := (blk_cell BK218.out 0).trans rfl
                have hcz50_1 : wr.cell? ⟨gb218, 1, none⟩ = some (.int .u64 a0_1) := (blk_cell BK218.out 1).trans rfl
                have hfz50_0 := blk_frozen BK218.out 0
                have hfz50_1 := blk_frozen BK218.out 1
                go_upto_if 45 with (fail)
                go_cut [9] (fun v9 wc => ∃ (kq : Nat) (x9_43 : Int), v9 = .int .u64 x9_43 ∧ Aside0 (awardingbodyref01_Divide.j2 kq x8_2 x9_43 a0_0 a0_1 a1_0 a1_1 x223000_2 x223001_2 x224000_2 x224001_2 = some (r1, r2, r3, r4)) ∧ Aside0 (kq ≤ k2) ∧ Aside0 (wc.heap[gb218]? = some (.cells #[.int .u64 a0_0, .int .u64 a0_1] 61 (0, 0))) ∧ Aside0 (wc.heap[gb219]? = some (.cells #[.int .u64 a1_0, .int .u64 a1_1] 61 (0, 0))) ∧ Aside0 (wc.heap[gb220]? = some (.cells #[.int .u64 0, .int .u64 0] 61 (0, 0))) ∧ Aside0 (wc.heap[gb221]? = some (.cells #[.int .u64 0, .int .u64 0] 61 (0, 0))) ∧ Aside0 (wc.heap[gb222]? = some (.cells #[.int .u64 x223000_2, .int .u64 x223001_2] 61 (0, 0))) ∧ Aside0 (wc.heap[gb223]? = some (.cells #[.int .u64 x224000_2, .int .u64 x224001_2] 61 (0, 0))) ∧ Aside0 (Below w.heap.size w wc))
                case first =>
                  have H := HC44.out
                  clear HC44
                  by_cases c51 : x8_2 ≥ 64
                  · rw [if_pos c51] at H
                    have c51b0 : decide (64 ≤ x8_2) = true := decide_eq_true c51
                    clear c51
                    (first | rw [c51b0] | (simp only [i64_w, i32_w]; rw [c51b0]) | skip)
                    obtain ⟨ji52, hji52⟩ : ∃ j_ : Int, (IntKind.u64.wrap (wrap64 (x8_2 - 64))) = j_ := ⟨_, rfl⟩
                    replace H : (if 0 ≤ (ji52) then (awardingbodyref01_Divide.j2 k2 x8_2 (Go.bits .and .u64 (shr .u64 a0_0 (ji52)) 1) a0_0 a0_1 a1_0 a1_1 x223000_2 x223001_2 x224000_2 x224001_2) else (none)) = some (r1, r2, r3, r4) := by first | (rw [hji52] at H; exact H) | (simp only [hji52] at H ⊢; exact H)
                    by_cases c53 : 0 ≤ (ji52)
                    · rw [if_pos c53] at H
                      have c53b0 := eq_true c53
                      have c53b1 : decide (0 ≤ (ji52)) = true := decide_eq_true c53
                      clear c53
                      obtain ⟨ji54, hji54⟩ : ∃ j_ : Int, (shr .u64 a0_0 (ji52)) = j_ := ⟨_, rfl⟩
                      replace H : (awardingbodyref01_Divide.j2 k2 x8_2 (Go.bits .and .u64 (ji54) 1) a0_0 a0_1 a1_0 a1_1 x223000_2 x223001_2 x224000_2 x224001_2) = some (r1, r2, r3, r4) := by first | (rw [hji54] at H; exact H) | (simp only [hji54] at H ⊢; exact H)
                      have hji54_ : (a0_0 / 2 ^ min (ji52).toNat 64) = ji54 := hji54
                      have hji54z : (ji52) ≤ 64 → (a0_0 / 2 ^ (ji52).toNat) = ji54 := shr_small hji54
                      have H' := Aside0.mk H
                      clear H
                      obtain ⟨hnb55, hnc55⟩ := n2 NB218_219
                      obtain ⟨hnb56, hnc56⟩ := n2 NB218_220
                      obtain ⟨hnb57, hnc57⟩ := n2 NB218_221
                      obtain ⟨hnb58, hnc58⟩ := n2 NB218_222
                      obtain ⟨hnb59, hnc59⟩ := n2 NB218_223
                      have hcz60_0 : wr.cell? ⟨gb218, 0, none⟩ = some (.int .u64 a0_0) := (blk_cell BK218.out 0).trans rfl
                      have hcz60_1 : wr.cell? ⟨gb218, 1, none⟩ = some (.int .u64 a0_1) := (blk_cell BK218.out 1).trans rfl
                      have hfz60_0 := blk_frozen BK218.out 0
                      have hfz60_1 := blk_frozen BK218.out 1
                      go_wp2
                      go_meet
                      case rel => exact ⟨_, (Go.bits .and .u64 (ji54) 1), (by first | rfl | (simp; done) | (simp only [← hji54] <;> (first | rfl | simp)) | (simp [*]; done)), H', ⟨by have := HJ2.out; have := HK2.out; first | omega | exact Nat.le_refl _⟩, ⟨bq BK218⟩, ⟨bq BK219⟩, ⟨bq BK220⟩, ⟨bq BK221⟩, ⟨bq BK222⟩, ⟨bq BK223⟩, ⟨bw HB⟩⟩
                    · rw [if_neg c53] at H
                      exact absurd H (by simp)
                  · rw [if_neg c51] at H
                    have c51b0 : decide (64 ≤ x8_2) = false := decide_eq_false c51
                    clear c51
                    (first | rw [c51b0] | (simp only [i64_w, i32_w]; rw [c51b0]) | skip)
                    have H' := Aside0.mk H
                    clear H
                    go_wp2
                    go_meet
                    case rel => exact ⟨_, (Go.bits .and .u64 (ji43) 1), (by first | rfl | (simp; done) | (simp only [← hji43] <;> (first | rfl | simp)) | (simp [*]; done)), H', ⟨by have := HJ2.out; have := HK2.out; first | omega | exact Nat.le_refl _⟩, ⟨bq BK218⟩, ⟨bq BK219⟩, ⟨bq BK220⟩, ⟨bq BK221⟩, ⟨bq BK222⟩, ⟨bq BK223⟩, ⟨bw HB⟩⟩
                case rest =>
                  clear HC44
                  try clear c1
                  try clear c2
                  try clear p2
                  try clear c3
                  try clear c4
                  try clear c5
                  try clear c6
                  try clear p6
                  try clear c8
                  try clear c8b0
                  try clear c8b1
                  try clear c9
                  try clear c10
                  try clear c11
                  try clear c13
                  try clear c14
                  try clear c16
                  try clear c17
                  try clear c18
                  try clear c20
                  try clear c21
                  try clear c21b0
                  try clear c21b1
                  try clear c29
                  try clear c30
                  try clear c31
                  try clear c32
                  try clear c33
                  try clear c35
                  try clear c36
                  try clear c37
                  try clear c38
                  try clear c40
                  try clear c40b0
                  try clear c42
                  try clear c42b0
                  try clear c42b1
                  try clear c45
                  try clear c46
                  try clear c47
                  try clear c48
                  try clear c49
                  try clear c51
                  try clear c51b0
                  try clear c53
                  try clear c53b0
                  try clear c53b1
                  try clear c55
                  try clear c56
                  try clear c57
                  try clear c58
                  try clear c59
                  try clear hcz12_0
                  try clear hcz12_1
                  try clear hcz15_0
                  try clear hcz15_1
                  try clear hcz19_0
                  try clear hcz19_1
                  try clear hcz34_0
                  try clear hcz34_1
                  try clear hcz39_0
                  try clear hcz39_1
                  try clear hcz50_0
                  try clear hcz50_1
                  try clear hcz60_0
                  try clear hcz60_1
                  try clear hfz12_0
                  try clear hfz12_1
                  try clear hfz15_0
                  try clear hfz15_1
                  try clear hfz19_0
                  try clear hfz19_1
                  try clear hfz34_0
                  try clear hfz34_1
                  try clear hfz39_0
                  try clear hfz39_1
                  try clear hfz50_0
                  try clear hfz50_1
                  try clear hfz60_0
                  try clear hfz60_1
                  try clear p2
                  obtain ⟨kq, x9_43, rfl, HA, HJ43, BK218, BK219, BK220, BK221, BK222, BK223, HB⟩ := hcut
                  cases kq with
                  | zero => exact absurd HA.out (by simp [awardingbodyref01_Divide.j2])
                  | succ kj43 =>
                    have H := HA.out
                    clear HA
                    simp only [awardingbodyref01_Divide.j2] at H
                    replace H := Option.bind_eq_some_iff.mp H
                    obtain ⟨⟨t224, t225⟩, A610, H⟩ := H
                    replace H : ((awardingbodyref01_Twice.f x223000_2 x223001_2).bind fun bt226 => (if (x224000_2 / 9223372036854775808) = 1 then ((awardingbodyref01_Minus.f t224 (Go.bits .or .u64 t225 x9_43) a1_0 a1_1).bind fun bt228 => (awardingbodyref01_Divide.l0 kj43 (wrap64 (x8_2 - 1)) a0_0 a0_1 a1_0 a1_1 bt226.1 (Go.bits .or .u64 bt226.2 1) bt228.1 bt228.2)) else ((awardingbodyref01_Order.f kj43 t224 (Go.bits .or .u64 t225 x9_43) a1_0 a1_1).bind fun t230 => (if t230 ≥ 0 then ((awardingbodyref01_Minus.f t224 (Go.bits .or .u64 t225 x9_43) a1_0 a1_1).bind fun bt231 => (awardingbodyref01_Divide.l0 kj43 (wrap64 (x8_2 - 1)) a0_0 a0_1 a1_0 a1_1 bt226.1 (Go.bits .or .u64 bt226.2 1) bt231.1 bt231.2)) else (awardingbodyref01_Divide.l0 kj43 (wrap64 (x8_2 - 1)) a0_0 a0_1 a1_0 a1_1 bt226.1 bt226.2 t224 (Go.bits .or .u64 t225 x9_43)))))) = some (r1, r2, r3, r4) := H
                    have A61 := Aside0.mk A610
                    clear A610
                    replace H := Option.bind_eq_some_iff.mp H
                    obtain ⟨⟨t226, t227⟩, A620, H⟩ := H
                    replace H : (if (x224000_2 / 9223372036854775808) = 1 then ((awardingbodyref01_Minus.f t224 (Go.bits .or .u64 t225 x9_43) a1_0 a1_1).bind fun bt228 => (awardingbodyref01_Divide.l0 kj43 (wrap64 (x8_2 - 1)) a0_0 a0_1 a1_0 a1_1 t226 (Go.bits .or .u64 t227 1) bt228.1 bt228.2)) else ((awardingbodyref01_Order.f kj43 t224 (Go.bits .or .u64 t225 x9_43) a1_0 a1_1).bind fun t230 => (if t230 ≥ 0 then ((awardingbodyref01_Minus.f t224 (Go.bits .or .u64 t225 x9_43) a1_0 a1_1).bind fun bt231 => (awardingbodyref01_Divide.l0 kj43 (wrap64 (x8_2 - 1)) a0_0 a0_1 a1_0 a1_1 t226 (Go.bits .or .u64 t227 1) bt231.1 bt231.2)) else (awardingbodyref01_Divide.l0 kj43 (wrap64 (x8_2 - 1)) a0_0 a0_1 a1_0 a1_1 t226 t227 t224 (Go.bits .or .u64 t225 x9_43))))) = some (r1, r2, r3, r4) := H
                    have A62 := Aside0.mk A620
                    clear A620
                    have HC63 := Aside0.mk H
                    clear H
                    obtain ⟨hnb64, hnc64⟩ := n2 NB223_218
                    obtain ⟨hnb65, hnc65⟩ := n2 NB223_219
                    obtain ⟨hnb66, hnc66⟩ := n2 NB223_220
                    obtain ⟨hnb67, hnc67⟩ := n2 NB223_221
                    obtain ⟨hnb68, hnc68⟩ := n2 NB223_222
                    have hcz69_0 : wc.cell? ⟨gb223, 0, none⟩ = some (.int .u64 x224000_2) := (blk_cell BK223.out 0).trans rfl
                    have hcz69_1 : wc.cell? ⟨gb223, 1, none⟩ = some (.int .u64 x224001_2) := (blk_cell BK223.out 1).trans rfl
                    have hfz69_0 := blk_frozen BK223.out 0
                    have hfz69_1 := blk_frozen BK223.out 1
                    go_upto_region 14 with (first | ((with_reducible refine gate_callee (f := 75) rfl ?_); refine goesL_ (some 58) rfl rfl Try.func75 (by kernel_rfl) rfl #[.agg #[.int .u64 x224000_2, .int .u64 x224001_2]] rfl (by (try simp only [List.map_toArray, List.map_cons, List.map_nil]); first | done | rfl | (simp only [List.length_drop, List.length_take]; rfl)) ?_; (with_reducible refine (awardingbodyref01_Twice.calls x224000_2 x224001_2 t224 t225 _ A61.out).mono ?_); rintro e w70 ⟨rfl, hb⟩; refine ⟨_, rfl, ?_⟩; replace BK218 := kb BK218 hb; replace BK219 := kb BK219 hb; replace BK220 := kb BK220 hb; replace BK221 := kb BK221 hb; replace BK222 := kb BK222 hb; replace BK223 := kb BK223 hb; replace HB := wb HB hb; (try clear hb); (try clear hb2); (try clear hk); (try clear hi); have hcz71_0 : w70.cell? ⟨gb223, 0, none⟩ = some (.int .u64 x224000_2) := (blk_cell BK223.out 0).trans rfl; have hcz71_1 : w70.cell? ⟨gb223, 1, none⟩ = some (.int .u64 x224001_2) := (blk_cell BK223.out 1).trans rfl; have hfz71_0 := blk_frozen BK223.out 0; have hfz71_1 := blk_frozen BK223.out 1; obtain ⟨hnb72, hnc72⟩ := n2 NB222_218; obtain ⟨hnb73, hnc73⟩ := n2 NB222_219; obtain ⟨hnb74, hnc74⟩ := n2 NB222_220; obtain ⟨hnb75, hnc75⟩ := n2 NB222_221; have hcz76_0 : w70.cell? ⟨gb222, 0, none⟩ = some (.int .u64 x223000_2) := (blk_cell BK222.out 0).trans rfl; have hcz76_1 : w70.cell? ⟨gb222, 1, none⟩ = some (.int .u64 x223001_2) := (blk_cell BK222.out 1).trans rfl; have hfz76_0 := blk_frozen BK222.out 0; have hfz76_1 := blk_frozen BK222.out 1) | ((with_reducible refine gate_callee (f := 75) rfl ?_); refine goesL_ (some 65) rfl rfl Try.func75 (by kernel_rfl) rfl #[.agg #[.int .u64 x223000_2, .int .u64 x223001_2]] rfl (by (try simp only [List.map_toArray, List.map_cons, List.map_nil]); first | done | rfl | (simp only [List.length_drop, List.length_take]; rfl)) ?_; (with_reducible refine (awardingbodyref01_Twice.calls x223000_2 x223001_2 t226 t227 _ A62.out).mono ?_); rintro e w77 ⟨rfl, hb⟩; refine ⟨_, rfl, ?_⟩; replace BK218 := kb BK218 hb; replace BK219 := kb BK219 hb; replace BK220 := kb BK220 hb; replace BK221 := kb BK221 hb; replace BK222 := kb BK222 hb; replace BK223 := Aside0.mk (blk_below (g := gb223) (o := .cells #[.int .u64 t224, .int .u64 (Go.bits .or .u64 t225 x9_43)] 61 (0, 0)) (by refine pe ?_; refine blk_put (cs := #[.int .u64 t224, .int .u64 t225]) ?_ 1 _ rfl; refine pe ?_; refine blk_put (cs := #[.int .u64 t224, .int .u64 x224001_2]) ?_ 1 _ rfl; refine pe ?_; refine blk_put (cs := #[.int .u64 x224000_2, .int .u64 x224001_2]) ?_ 0 _ rfl; refine pe ?_; exact BK223.out) hb); replace HB := wb HB hb; (try clear hb); (try clear hb2); (try clear hk); (try clear hi); have hcz78_0 : w77.cell? ⟨gb222, 0, none⟩ = some (.int .u64 x223000_2) := (blk_cell BK222.out 0).trans rfl; have hcz78_1 : w77.cell? ⟨gb222, 1, none⟩ = some (.int .u64 x223001_2) := (blk_cell BK222.out 1).trans rfl; have hfz78_0 := blk_frozen BK222.out 0; have hfz78_1 := blk_frozen BK222.out 1))
                    (try simp only [Act.put, List.setIfInBounds_toArray, List.set_cons_zero, List.set_cons_succ])
                    have H := HC63.out
                    clear HC63
                    by_cases c79 : (x224000_2 / 9223372036854775808) = 1
                    · rw [if_pos c79] at H
                      have c79b0 : ((x224000_2 / 9223372036854775808) == 1) = true := beq_iff_eq.mpr c79
                      have c79b1 : ((x224000_2 / 9223372036854775808) != 1) = false := bne_eq_false_iff_eq.mpr c79
                      clear c79
                      (first | rw [c79b0] | (simp only [i64_w, i32_w]; rw [c79b0]) | skip)
                      replace H := Option.bind_eq_some_iff.mp H
                      obtain ⟨⟨t228, t229⟩, A800, H⟩ := H
                      replace H : (awardingbodyref01_Divide.l0 kj43 (wrap64 (x8_2 - 1)) a0_0 a0_1 a1_0 a1_1 t226 (Go.bits .or .u64 t227 1) t228 t229) = some (r1, r2, r3, r4) := H
                      have A80 := Aside0.mk A800
                      clear A800
                      have H' := Aside0.mk H
                      clear H
                      obtain ⟨hnb81, hnc81⟩ := n2 NB223_218
                      obtain ⟨hnb82, hnc82⟩ := n2 NB223_219
                      obtain ⟨hnb83, hnc83⟩ := n2 NB223_220
                      obtain ⟨hnb84, hnc84⟩ := n2 NB223_221
                      obtain ⟨hnb85, hnc85⟩ := n2 NB223_222
                      have hcz86_0 : w77.cell? ⟨gb223, 0, none⟩ = some (.int .u64 t224) := (blk_cell BK223.out 0).trans rfl
                      have hcz86_1 : w77.cell? ⟨gb223, 1, none⟩ = some (.int .u64 (Go.bits .or .u64 t225 x9_43)) := (blk_cell BK223.out 1).trans rfl
                      have hfz86_0 := blk_frozen BK223.out 0
                      have hfz86_1 := blk_frozen BK223.out 1
                      obtain ⟨hnb87, hnc87⟩ := n2 NB219_218
                      obtain ⟨hnb88, hnc88⟩ := n2 NB219_220
                      obtain ⟨hnb89, hnc89⟩ := n2 NB219_221
                      obtain ⟨hnb90, hnc90⟩ := n2 NB219_222
                      have hcz91_0 : w77.cell? ⟨gb219, 0, none⟩ = some (.int .u64 a1_0) := (blk_cell BK219.out 0).trans rfl
                      have hcz91_1 : w77.cell? ⟨gb219, 1, none⟩ = some (.int .u64 a1_1) := (blk_cell BK219.out 1).trans rfl
                      have hfz91_0 := blk_frozen BK219.out 0
                      have hfz91_1 := blk_frozen BK219.out 1
                      go_wp2_with (first | ((with_reducible refine gate_callee (f := 71) rfl ?_); refine goesL_ (some 75) rfl rfl Try.func71 (by kernel_rfl) rfl #[.agg #[.int .u64 t224, .int .u64 (Go.bits .or .u64 t225 x9_43)], .agg #[.int .u64 a1_0, .int .u64 a1_1]] rfl (by (try simp only [List.map_toArray, List.map_cons, List.map_nil]); first | done | rfl | (simp only [List.length_drop, List.length_take]; rfl)) ?_; (with_reducible refine (awardingbodyref01_Minus.calls t224 (Go.bits .or .u64 t225 x9_43) a1_0 a1_1 t228 t229 _ A80.out).mono ?_); rintro e w92 ⟨rfl, hb⟩; refine ⟨_, rfl, ?_⟩; replace BK218 := kb BK218 hb; replace BK219 := kb BK219 hb; replace BK220 := kb BK220 hb; replace BK221 := kb BK221 hb; replace BK222 := Aside0.mk (blk_below (g := gb222) (o := .cells #[.int .u64 t226, .int .u64 t227] 61 (0, 0)) (by refine pe ?_; refine blk_put (cs := #[.int .u64 t226, .int .u64 x223001_2]) ?_ 1 _ rfl; refine pe ?_; refine blk_put (cs := #[.int .u64 x223000_2, .int .u64 x223001_2]) ?_ 0 _ rfl; refine pe ?_; exact BK222.out) hb); replace BK223 := kb BK223 hb; replace HB := wb HB hb; (try clear hb); (try clear hb2); (try clear hk); (try clear hi); have hcz93_0 : w92.cell? ⟨gb223, 0, none⟩ = some (.int .u64 t224) := (blk_cell BK223.out 0).trans rfl; have hcz93_1 : w92.cell? ⟨gb223, 1, none⟩ = some (.int .u64 (Go.bits .or .u64 t225 x9_43)) := (blk_cell BK223.out 1).trans rfl; have hfz93_0 := blk_frozen BK223.out 0; have hfz93_1 := blk_frozen BK223.out 1; obtain ⟨hnb94, hnc94⟩ := n2 NB222_218; obtain ⟨hnb95, hnc95⟩ := n2 NB222_220; obtain ⟨hnb96, hnc96⟩ := n2 NB222_221; have hcz97_0 : w92.cell? ⟨gb222, 0, none⟩ = some (.int .u64 t226) := (blk_cell BK222.out 0).trans rfl; have hcz97_1 : w92.cell? ⟨gb222, 1, none⟩ = some (.int .u64 t227) := (blk_cell BK222.out 1).trans rfl; have hfz97_0 := blk_frozen BK222.out 0; have hfz97_1 := blk_frozen BK222.out 1))
                      go_roundg kj43
                      case measure => have := HJ2.out; have := HK2.out; have := HJ43.out; omega
                      case rel => exact ⟨(wrap64 (x8_2 - 1)), (t226), (Go.bits .or .u64 t227 1), (t228), (t229), (by first | rfl | (simp; done) | (simp [*]; done)), H', ⟨by have := HJ2.out; have := HK2.out; have := HJ43.out; omega⟩, ⟨bq BK218⟩, ⟨bq BK219⟩, ⟨bq BK220⟩, ⟨bq BK221⟩, ⟨by refine pe ?_; refine blk_put (cs := #[.int .u64 t226, .int .u64 t227]) ?_ 1 _ rfl; refine pe ?_; refine blk_far ?_ NB222_223.out _; refine pe ?_; refine blk_far ?_ NB222_223.out _; refine pe ?_; exact BK222.out⟩, ⟨by refine pe ?_; refine blk_far ?_ NB223_222.out _; refine pe ?_; refine blk_put (cs := #[.int .u64 t228, .int .u64 (Go.bits .or .u64 t225 x9_43)]) ?_ 1 _ rfl; refine pe ?_; refine blk_put (cs := #[.int .u64 t224, .int .u64 (Go.bits .or .u64 t225 x9_43)]) ?_ 0 _ rfl; refine pe ?_; exact BK223.out⟩, ⟨bw HB⟩⟩
                    · rw [if_neg c79] at H
                      have c79b0 : ((x224000_2 / 9223372036854775808) == 1) = false := beq_eq_false_iff_ne.mpr c79
                      have c79b1 : ((x224000_2 / 9223372036854775808) != 1) = true := bne_iff_ne.mpr c79
                      (first | rw [c79b0] | (simp only [i64_w, i32_w]; rw [c79b0]) | skip)
                      replace H := Option.bind_eq_some_iff.mp H
                      obtain ⟨t230, A980, H⟩ := H
                      replace H : (if t230 ≥ 0 then ((awardingbodyref01_Minus.f t224 (Go.bits .or .u64 t225 x9_43) a1_0 a1_1).bind fun bt231 => (awardingbodyref01_Divide.l0 kj43 (wrap64 (x8_2 - 1)) a0_0 a0_1 a1_0 a1_1 t226 (Go.bits .or .u64 t227 1) bt231.1 bt231.2)) else (awardingbodyref01_Divide.l0 kj43 (wrap64 (x8_2 - 1)) a0_0 a0_1 a1_0 a1_1 t226 t227 t224 (Go.bits .or .u64 t225 x9_43))) = some (r1, r2, r3, r4) := H
                      have A98 := Aside0.mk A980
                      clear A980
                      by_cases c99 : t230 ≥ 0
                      · rw [if_pos c99] at H
                        have c99b0 : decide (0 ≤ t230) = true := decide_eq_true c99
                        clear c99
                        replace H := Option.bind_eq_some_iff.mp H
                        obtain ⟨⟨t231, t232⟩, A1000, H⟩ := H
                        replace H : (awardingbodyref01_Divide.l0 kj43 (wrap64 (x8_2 - 1)) a0_0 a0_1 a1_0 a1_1 t226 (Go.bits .or .u64 t227 1) t231 t232) = some (r1, r2, r3, r4) := H
                        have A100 := Aside0.mk A1000
                        clear A1000
                        have H' := Aside0.mk H
                        clear H
                        obtain ⟨hnb101, hnc101⟩ := n2 NB223_218
                        obtain ⟨hnb102, hnc102⟩ := n2 NB223_219
                        obtain ⟨hnb103, hnc103⟩ := n2 NB223_220
                        obtain ⟨hnb104, hnc104⟩ := n2 NB223_221
                        obtain ⟨hnb105, hnc105⟩ := n2 NB223_222
                        have hcz106_0 : w77.cell? ⟨gb223, 0, none⟩ = some (.int .u64 t224) := (blk_cell BK223.out 0).trans rfl
                        have hcz106_1 : w77.cell? ⟨gb223, 1, none⟩ = some (.int .u64 (Go.bits .or .u64 t225 x9_43)) := (blk_cell BK223.out 1).trans rfl
                        have hfz106_0 := blk_frozen BK223.out 0
                        have hfz106_1 := blk_frozen BK223.out 1
                        obtain ⟨hnb107, hnc107⟩ := n2 NB219_218
                        obtain ⟨hnb108, hnc108⟩ := n2 NB219_220
                        obtain ⟨hnb109, hnc109⟩ := n2 NB219_221
                        obtain ⟨hnb110, hnc110⟩ := n2 NB219_222
                        have hcz111_0 : w77.cell? ⟨gb219, 0, none⟩ = some (.int .u64 a1_0) := (blk_cell BK219.out 0).trans rfl
                        have hcz111_1 : w77.cell? ⟨gb219, 1, none⟩ = some (.int .u64 a1_1) := (blk_cell BK219.out 1).trans rfl
                        have hfz111_0 := blk_frozen BK219.out 0
                        have hfz111_1 := blk_frozen BK219.out 1
                        go_wp2_with (first | (go_at_call 70; (with_reducible refine (awardingbodyref01_Order.calls kj43 t224 (Go.bits .or .u64 t225 x9_43) a1_0 a1_1 t230 _ A98.out).mono ?_); rintro e w112 ⟨rfl, hb⟩; replace BK218 := kb BK218 hb; replace BK219 := kb BK219 hb; replace BK220 := kb BK220 hb; replace BK221 := kb BK221 hb; replace BK222 := Aside0.mk (blk_below (g := gb222) (o := .cells #[.int .u64 t226, .int .u64 t227] 61 (0, 0)) (by refine pe ?_; refine blk_put (cs := #[.int .u64 t226, .int .u64 x223001_2]) ?_ 1 _ rfl; refine pe ?_; refine blk_put (cs := #[.int .u64 x223000_2, .int .u64 x223001_2]) ?_ 0 _ rfl; refine pe ?_; exact BK222.out) hb); replace BK223 := kb BK223 hb; replace HB := wb HB hb; (try clear hb); (try clear hb2); (try clear hk); (try clear hi); have hcz113_0 : w112.cell? ⟨gb223, 0, none⟩ = some (.int .u64 t224) := (blk_cell BK223.out 0).trans rfl; have hcz113_1 : w112.cell? ⟨gb223, 1, none⟩ = some (.int .u64 (Go.bits .or .u64 t225 x9_43)) := (blk_cell BK223.out 1).trans rfl; have hfz113_0 := blk_frozen BK223.out 0; have hfz113_1 := blk_frozen BK223.out 1; have hcz114_0 : w112.cell? ⟨gb219, 0, none⟩ = some (.int .u64 a1_0) := (blk_cell BK219.out 0).trans rfl; have hcz114_1 : w112.cell? ⟨gb219, 1, none⟩ = some (.int .u64 a1_1) := (blk_cell BK219.out 1).trans rfl; have hfz114_0 := blk_frozen BK219.out 0; have hfz114_1 := blk_frozen BK219.out 1) | ((with_reducible refine gate_callee (f := 71) rfl ?_); refine goesL_ (some 75) rfl rfl Try.func71 (by kernel_rfl) rfl #[.agg #[.int .u64 t224, .int .u64 (Go.bits .or .u64 t225 x9_43)], .agg #[.int .u64 a1_0, .int .u64 a1_1]] rfl (by (try simp only [List.map_toArray, List.map_cons, List.map_nil]); first | done | rfl | (simp only [List.length_drop, List.length_take]; rfl)) ?_; (with_reducible refine (awardingbodyref01_Minus.calls t224 (Go.bits .or .u64 t225 x9_43) a1_0 a1_1 t231 t232 _ A100.out).mono ?_); rintro e w115 ⟨rfl, hb⟩; refine ⟨_, rfl, ?_⟩; replace BK218 := kb BK218 hb; replace BK219 := kb BK219 hb; replace BK220 := kb BK220 hb; replace BK221 := kb BK221 hb; replace BK222 := kb BK222 hb; replace BK223 := kb BK223 hb; replace HB := wb HB hb; (try clear hb); (try clear hb2); (try clear hk); (try clear hi); have hcz116_0 : w115.cell? ⟨gb223, 0, none⟩ = some (.int .u64 t224) := (blk_cell BK223.out 0).trans rfl; have hcz116_1 : w115.cell? ⟨gb223, 1, none⟩ = some (.int .u64 (Go.bits .or .u64 t225 x9_43)) := (blk_cell BK223.out 1).trans rfl; have hfz116_0 := blk_frozen BK223.out 0; have hfz116_1 := blk_frozen BK223.out 1; obtain ⟨hnb117, hnc117⟩ := n2 NB222_218; obtain ⟨hnb118, hnc118⟩ := n2 NB222_220; obtain ⟨hnb119, hnc119⟩ := n2 NB222_221; have hcz120_0 : w115.cell? ⟨gb222, 0, none⟩ = some (.int .u64 t226) := (blk_cell BK222.out 0).trans rfl; have hcz120_1 : w115.cell? ⟨gb222, 1, none⟩ = some (.int .u64 t227) := (blk_cell BK222.out 1).trans rfl; have hfz120_0 := blk_frozen BK222.out 0; have hfz120_1 := blk_frozen BK222.out 1))
                        go_roundg kj43
                        case measure => have := HJ2.out; have := HK2.out; have := HJ43.out; omega
                        case rel => exact ⟨(wrap64 (x8_2 - 1)), (t226), (Go.bits .or .u64 t227 1), (t231), (t232), (by first | rfl | (simp; done) | (simp [*]; done)), H', ⟨by have := HJ2.out; have := HK2.out; have := HJ43.out; omega⟩, ⟨bq BK218⟩, ⟨bq BK219⟩, ⟨bq BK220⟩, ⟨bq BK221⟩, ⟨by refine pe ?_; refine blk_put (cs := #[.int .u64 t226, .int .u64 t227]) ?_ 1 _ rfl; refine pe ?_; refine blk_far ?_ NB222_223.out _; refine pe ?_; refine blk_far ?_ NB222_223.out _; refine pe ?_; exact BK222.out⟩, ⟨by refine pe ?_; refine blk_far ?_ NB223_222.out _; refine pe ?_; refine blk_put (cs := #[.int .u64 t231, .int .u64 (Go.bits .or .u64 t225 x9_43)]) ?_ 1 _ rfl; refine pe ?_; refine blk_put (cs := #[.int .u64 t224, .int .u64 (Go.bits .or .u64 t225 x9_43)]) ?_ 0 _ rfl; refine pe ?_; exact BK223.out⟩, ⟨bw HB⟩⟩
                      · rw [if_neg c99] at H
                        have c99b0 : decide (0 ≤ t230) = false := decide_eq_false c99
                        clear c99
                        have H' := Aside0.mk H
                        clear H
                        obtain ⟨hnb121, hnc121⟩ := n2 NB223_218
                        obtain ⟨hnb122, hnc122⟩ := n2 NB223_219
                        obtain ⟨hnb123, hnc123⟩ := n2 NB223_220
                        obtain ⟨hnb124, hnc124⟩ := n2 NB223_221
                        obtain ⟨hnb125, hnc125⟩ := n2 NB223_222
                        have hcz126_0 : w77.cell? ⟨gb223, 0, none⟩ = some (.int .u64 t224) := (blk_cell BK223.out 0).trans rfl
                        have hcz126_1 : w77.cell? ⟨gb223, 1, none⟩ = some (.int .u64 (Go.bits .or .u64 t225 x9_43)) := (blk_cell BK223.out 1).trans rfl
                        have hfz126_0 := blk_frozen BK223.out 0
                        have hfz126_1 := blk_frozen BK223.out 1
                        obtain ⟨hnb127, hnc127⟩ := n2 NB219_218
                        obtain ⟨hnb128, hnc128⟩ := n2 NB219_220
                        obtain ⟨hnb129, hnc129⟩ := n2 NB219_221
                        obtain ⟨hnb130, hnc130⟩ := n2 NB219_222
                        have hcz131_0 : w77.cell? ⟨gb219, 0, none⟩ = some (.int .u64 a1_0) := (blk_cell BK219.out 0).trans rfl
                        have hcz131_1 : w77.cell? ⟨gb219, 1, none⟩ = some (.int .u64 a1_1) := (blk_cell BK219.out 1).trans rfl
                        have hfz131_0 := blk_frozen BK219.out 0
                        have hfz131_1 := blk_frozen BK219.out 1
                        go_wp2_with (first | (go_at_call 70; (with_reducible refine (awardingbodyref01_Order.calls kj43 t224 (Go.bits .or .u64 t225 x9_43) a1_0 a1_1 t230 _ A98.out).mono ?_); rintro e w132 ⟨rfl, hb⟩; replace BK218 := kb BK218 hb; replace BK219 := kb BK219 hb; replace BK220 := kb BK220 hb; replace BK221 := kb BK221 hb; replace BK222 := Aside0.mk (blk_below (g := gb222) (o := .cells #[.int .u64 t226, .int .u64 t227] 61 (0, 0)) (by refine pe ?_; refine blk_put (cs := #[.int .u64 t226, .int .u64 x223001_2]) ?_ 1 _ rfl; refine pe ?_; refine blk_put (cs := #[.int .u64 x223000_2, .int .u64 x223001_2]) ?_ 0 _ rfl; refine pe ?_; exact BK222.out) hb); replace BK223 := kb BK223 hb; replace HB := wb HB hb; (try clear hb); (try clear hb2); (try clear hk); (try clear hi)))
                        go_roundg kj43
                        case measure => have := HJ2.out; have := HK2.out; have := HJ43.out; omega
                        case rel => exact ⟨(wrap64 (x8_2 - 1)), (t226), (t227), (t224), (Go.bits .or .u64 t225 x9_43), (by first | rfl | (simp; done) | (simp [*]; done)), H', ⟨by have := HJ2.out; have := HK2.out; have := HJ43.out; omega⟩, ⟨bq BK218⟩, ⟨bq BK219⟩, ⟨bq BK220⟩, ⟨bq BK221⟩, ⟨bq BK222⟩, ⟨bq BK223⟩, ⟨bw HB⟩⟩
              · rw [if_neg c42] at H
                exact absurd H (by simp)
            · rw [if_neg c40] at H
              have c40b0 : decide (0 ≤ x8_2) = false := decide_eq_false c40
              clear c40
              simp only [Option.some.injEq, Prod.mk.injEq] at H
              obtain ⟨rfl, rfl, rfl, rfl⟩ := H
              try go_wp2
              have n0_ := Aside0.mk (blk_drew BK218.out)
              have n1_ := Aside0.mk (blk_drew BK219.out)
              have n2_ := Aside0.mk (blk_drew BK220.out)
              have n3_ := Aside0.mk (blk_drew BK221.out)
              have n4_ := Aside0.mk (blk_drew BK222.out)
              have n5_ := Aside0.mk (blk_drew BK223.out)
              have n6_ := Aside0.mk (below_drew1 HB.out)
              clear BK218
              clear BK219
              clear BK220
              clear BK221
              clear BK222
              clear BK223
              clear HB
              have BK218 := n0_
              have BK219 := n1_
              have BK220 := n2_
              have BK221 := n3_
              have BK222 := n4_
              have BK223 := n5_
              have HB := n6_
              clear n0_ n1_ n2_ n3_ n4_ n5_ n6_
              refine start_ (n := 4) (S := fun w' => w'.cell? ⟨gb222, 0, none⟩ = some (.int .u64 x223000_2) ∧ w'.cell? ⟨gb222, 1, none⟩ = some (.int .u64 x223001_2) ∧ w'.cell? ⟨gb223, 0, none⟩ = some (.int .u64 x224000_2) ∧ w'.cell? ⟨gb223, 1, none⟩ = some (.int .u64 x224001_2)) (ds := []) #[false, false, false, false] (by kernel_rfl) rfl rfl ⟨(blk_cell BK222.out 0).trans rfl, (blk_cell BK222.out 1).trans rfl, (blk_cell BK223.out 0).trans rfl, (blk_cell BK223.out 1).trans rfl⟩ (fun hHeld => ?_)
              generalize wr.drew = w133 at BK218 BK219 BK220 BK221 BK222 BK223 HB hHeld ⊢
              refine take_ (i := 0) (N := some 80) (v := ?_) (a' := ?_) #[true, false, false, false] rfl rfl (by kernel_rfl) (fun _ _ _ h => h) (Or.inl ⟨by rfl, ?_⟩) hHeld ?_ ?_
              rotate_left
              · rintro w' ⟨s0, s1, s2, s3⟩
                go_simp
                with_reducible rfl
              rotate_left
              · simp only [Act.put, List.setIfInBounds_toArray, List.set_cons_zero, List.set_cons_succ, i64_w, i32_w]
                rfl
              refine take_ (i := 1) (N := some 81) (v := ?_) (a' := ?_) #[true, true, false, false] rfl rfl (by kernel_rfl) (fun _ _ _ h => h) (Or.inl ⟨by rfl, ?_⟩) hHeld ?_ ?_
              rotate_left
              · rintro w' ⟨s0, s1, s2, s3⟩
                go_simp
                with_reducible rfl
              rotate_left
              · simp only [Act.put, List.setIfInBounds_toArray, List.set_cons_zero, List.set_cons_succ, i64_w, i32_w]
                rfl
              refine one_ (i := 2) (N := none) #[true, true, true, false] rfl rfl (by kernel_rfl) (by decide) (fun K hK => ?_)
              have hs134 : w133.cell? ⟨gb220, 0, none⟩ = some (.int .u64 0) := (blk_cell BK220.out 0).trans rfl
              have hfs134 := blk_frozen BK220.out 0
              have hns134_0 := NB218_220.out
              have hns134_1 := NB219_220.out
              have hns134_3 := NB221_220.out
              have hns134_4 := NB222_220.out
              have hns134_5 := NB223_220.out
              have hms134_0 := NB220_218.out
              have hms134_1 := NB220_219.out
              have hms134_3 := NB220_221.out
              have hms134_4 := NB220_222.out
              have hms134_5 := NB220_223.out
              have hs135 : w133.cell? ⟨gb220, 1, none⟩ = some (.int .u64 0) := (blk_cell BK220.out 1).trans rfl
              have hfs135 := blk_frozen BK220.out 1
              have hns135_0 := NB218_220.out
              have hns135_1 := NB219_220.out
              have hns135_3 := NB221_220.out
              have hns135_4 := NB222_220.out
              have hns135_5 := NB223_220.out
              have hms135_0 := NB220_218.out
              have hms135_1 := NB220_219.out
              have hms135_3 := NB220_221.out
              have hms135_4 := NB220_222.out
              have hms135_5 := NB220_223.out
              refine skip_ (w1 := ?_) (by rfl) rfl ?_ ?_
              rotate_left
              · go_simp
                rfl
              refine hK.out _ _ ⟨((cell_far (p := ⟨gb220, _, none⟩) NB222_220.out _).trans (((cell_far (p := ⟨gb220, _, none⟩) NB222_220.out _).trans (hHeld.1)))), ((cell_far (p := ⟨gb220, _, none⟩) NB222_220.out _).trans (((cell_far (p := ⟨gb220, _, none⟩) NB222_220.out _).trans (hHeld.2.1)))), ((cell_far (p := ⟨gb220, _, none⟩) NB223_220.out _).trans (((cell_far (p := ⟨gb220, _, none⟩) NB223_220.out _).trans (hHeld.2.2.1)))), ((cell_far (p := ⟨gb220, _, none⟩) NB223_220.out _).trans (((cell_far (p := ⟨gb220, _, none⟩) NB223_220.out _).trans (hHeld.2.2.2))))⟩ (fun hHeld => ?_)
              clear hK K
              refine one_ (i := 3) (N := none) #[true, true, true, true] rfl rfl (by kernel_rfl) (by decide) (fun K hK => ?_)
              have hs136 : w133.cell? ⟨gb221, 0, none⟩ = some (.int .u64 0) := (blk_cell BK221.out 0).trans rfl
              have hfs136 := blk_frozen BK221.out 0
              have hns136_0 := NB218_221.out
              have hns136_1 := NB219_221.out
              have hns136_2 := NB220_221.out
              have hns136_4 := NB222_221.out
              have hns136_5 := NB223_221.out
              have hms136_0 := NB221_218.out
              have hms136_1 := NB221_219.out
              have hms136_2 := NB221_220.out
              have hms136_4 := NB221_222.out
              have hms136_5 := NB221_223.out
              have hs137 : w133.cell? ⟨gb221, 1, none⟩ = some (.int .u64 0) := (blk_cell BK221.out 1).trans rfl
              have hfs137 := blk_frozen BK221.out 1
              have hns137_0 := NB218_221.out
              have hns137_1 := NB219_221.out
              have hns137_2 := NB220_221.out
              have hns137_4 := NB222_221.out
              have hns137_5 := NB223_221.out
              have hms137_0 := NB221_218.out
              have hms137_1 := NB221_219.out
              have hms137_2 := NB221_220.out
              have hms137_4 := NB221_222.out
              have hms137_5 := NB221_223.out
              refine skip_ (w1 := ?_) (by rfl) rfl ?_ ?_
              rotate_left
              · go_simp
                rfl
              refine hK.out _ _ ⟨((cell_far (p := ⟨gb221, _, none⟩) NB222_221.out _).trans (((cell_far (p := ⟨gb221, _, none⟩) NB222_221.out _).trans (hHeld.1)))), ((cell_far (p := ⟨gb221, _, none⟩) NB222_221.out _).trans (((cell_far (p := ⟨gb221, _, none⟩) NB222_221.out _).trans (hHeld.2.1)))), ((cell_far (p := ⟨gb221, _, none⟩) NB223_221.out _).trans (((cell_far (p := ⟨gb221, _, none⟩) NB223_221.out _).trans (hHeld.2.2.1)))), ((cell_far (p := ⟨gb221, _, none⟩) NB223_221.out _).trans (((cell_far (p := ⟨gb221, _, none⟩) NB223_221.out _).trans (hHeld.2.2.2))))⟩ (fun hHeld => ?_)
              clear hK K
              refine done_ (by kernel_rfl) ?_
              try go_wp2
              refine bodyPost_ret (results_cc rfl _ _ gb220 gb221 61 61 #[.int .u64 x223000_2, .int .u64 x223001_2] #[.int .u64 x224000_2, .int .u64 x224001_2] (0, 0) (0, 0) _ _ rfl (by refine pe ?_; refine blk_far ?_ NB220_221.out _; refine pe ?_; refine blk_far ?_ NB220_221.out _; refine pe ?_; refine blk_put (cs := #[.int .u64 x223000_2, .int .u64 0]) ?_ 1 _ rfl; refine pe ?_; refine blk_put (cs := #[.int .u64 0, .int .u64 0]) ?_ 0 _ rfl; refine pe ?_; exact BK220.out) Try.underlying61 rfl (by kernel_rfl) rfl (by refine pe ?_; refine blk_put (cs := #[.int .u64 x224000_2, .int .u64 0]) ?_ 1 _ rfl; refine pe ?_; refine blk_put (cs := #[.int .u64 0, .int .u64 0]) ?_ 0 _ rfl; refine pe ?_; refine blk_far ?_ NB221_220.out _; refine pe ?_; refine blk_far ?_ NB221_220.out _; refine pe ?_; exact BK221.out) Try.underlying61 rfl (by kernel_rfl)) rfl ?_
              exact ⟨by first | rfl | (simp [errW_none, errW_some] <;> rfl) | (simp [*, errW_none, errW_some] <;> rfl), bw HB⟩

end Go.Proofs.Ytcbohbeipgcfhaa.G
