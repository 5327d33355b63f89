/- Texts of this claim laid together: Gf3, MathR, MathA, MathDiv, MathDivB, MathC, MathD, MathE, MathF, MathRb, MathRc. -/
import Derived.Test.YtbapkiclgkddcaaGreatDoorShortC
import Derived.Test.YtbapkiclgkddcaaGreatDoorZBn2
import Derived.Test.YtbapkiclgkddcaaGreatDoorIto
import Derived.Test.YtbapkiclgkddcaaGreatDoorG0
import Derived.Test.YtbapkiclgkddcaaGreatDoorGe0
import Derived.Test.YtbapkiclgkddcaaGreatDoorZBn3
import Derived.Test.YtbapkiclgkddcaaGreatDoorZBn4
import Derived.Test.YtbapkiclgkddcaaGreatDoorZBn6
import Derived.Test.YtbapkiclgkddcaaGreatDoorGivenS
import Derived.Test.YtbapkiclgkddcaaGreatDoorZBn1
import Derived.Test.YtbapkiclgkddcaaGreatDoorZBn5
import Derived.Laws.Bits64b
import Derived.Lib.Mul64
-- Printed by gp.py (a program of this session's own, over the kit's printer) out of the translation; Lean checks it.
namespace Go.Proofs.YtbapkiclgkddcaaGreatDoor.G
open Go.Proofs.YtbapkiclgkddcaaGreatDoor.Given Go.Proofs.YtbapkiclgkddcaaGreatDoor.Short
open Go.RowKit Go.Proofs.YtbapkiclgkddcaaGreatDoorW.PrintWords Go.Proofs.YtbapkiclgkddcaaGreatDoorW.PrintLast Go.Proofs.YtbapkiclgkddcaaGreatDoorW.PrintMore
attribute [local go_sem] max2_int min2_int max_two min_two max_three min_three max_four min_four   -- for this text's walks alone
set_option linter.unusedVariables false
set_option linter.unusedSimpArgs false

attribute [local go_sem high] eqA24
/-! ### awardingbodylaw01_RatioBack: function 3 -/
def awardingbodylaw01_RatioBack.f (k : Nat) (l0 : List Int) : Option (Bool) := (mk_New.f l0).bind fun bt347 => ((tp_Loose.f k bt347.1 bt347.2).bind fun bt350 => ((ratio_Format.f k bt350.1 bt350.2.1).bind fun t354 => ((r1_Format.f k bt350.1 bt350.2.1).bind fun t355 => (if t354.toList = t355.toList then ((ratio_Parse.f k t354).bind fun bt356 => ((r1_Valid.f k bt350.1 bt350.2.1).bind fun t360 => (if t360 = true then (if bt356.2.2 = 0 then (if (bt356.1 == bt350.1 && (bt356.2.1 == bt350.2.1)) = true then ((awardingbodylaw01_awake.f k).bind fun t361 => (some t361)) else (some false)) else (some false)) else (if bt356.2.2 = 7 then ((awardingbodylaw01_awake.f k).bind fun t362 => (some t362)) else (some false))))) else (some false)))))
theorem awardingbodylaw01_RatioBack.mono : ∀ a0 k, LeO (awardingbodylaw01_RatioBack.f k a0) (awardingbodylaw01_RatioBack.f (k + 1) a0) := by
 intro a0 k; unfold awardingbodylaw01_RatioBack.f
 repeat' first
   | (with_reducible exact awardingbodylaw01_awake.mono _)
   | (with_reducible exact tp_Loose.mono _ _ _)
   | (with_reducible exact r1_Format.mono _ _ _)
   | (with_reducible exact r1_Valid.mono _ _ _)
   | (with_reducible exact ratio_Format.mono _ _ _)
   | (with_reducible exact ratio_Parse.mono _ _)
   | (with_reducible exact LeO.refl _)
   | (with_reducible exact LeO.none _)
   | (with_reducible refine LeO.ite ?_ ?_)
   | (with_reducible refine LeO.bind ?_ (fun _ => ?_))
   | exact awardingbodylaw01_awake.mono _
   | exact tp_Loose.mono _ _ _
   | exact r1_Format.mono _ _ _
   | exact r1_Valid.mono _ _ _
   | exact ratio_Format.mono _ _ _
   | exact ratio_Parse.mono _ _
   | exact LeO.none _
   | refine LeO.ite ?_ ?_
   | refine LeO.bind ?_ (fun _ => ?_)
set_option maxHeartbeats 8000000 in
set_option maxRecDepth 100000 in
theorem awardingbodylaw01_RatioBack.calls (k : Nat) (A0 : Option Addr) (c0 : Nat) (l0 : List Int) (r : Bool) (w : World) (hr0 : Kd.C (Kd.int .i64) w A0 l0.length l0) (hc0 : l0.length ≤ c0) (HT : Aside0 (Tab w)) (h : awardingbodylaw01_RatioBack.f k l0 = some r) :
  Calls Tryz.prog 3 #[.slice A0 l0.length c0] w fun e w' => e = .returned (.bool r) ∧ Below w.heap.size w w' := by
 have hu24 := Tryz.underlying24; have HR0 := Aside0.mk hr0; have HC0 := Aside0.mk hc0; clear hr0 hc0; have HB := Aside0.mk (Below.refl w.heap.size w); have H : ((mk_New.f l0).bind fun bt347 => ((tp_Loose.f k bt347.1 bt347.2).bind fun bt350 => ((ratio_Format.f k bt350.1 bt350.2.1).bind fun t354 => ((r1_Format.f k bt350.1 bt350.2.1).bind fun t355 => (if t354.toList = t355.toList then ((ratio_Parse.f k t354).bind fun bt356 => ((r1_Valid.f k bt350.1 bt350.2.1).bind fun t360 => (if t360 = true then (if bt356.2.2 = 0 then (if (bt356.1 == bt350.1 && (bt356.2.1 == bt350.2.1)) = true then ((awardingbodylaw01_awake.f k).bind fun t361 => (some t361)) else (some false)) else (some false)) else (if bt356.2.2 = 7 then ((awardingbodylaw01_awake.f k).bind fun t362 => (some t362)) else (some false))))) else (some false)))))) = some r := h; clear h; replace H := Option.bind_eq_some_iff.mp H; obtain ⟨⟨t347, t348⟩, A20, H⟩ := H; (try dsimp only at H); have A2 := Aside0.mk A20; clear A20; replace H := Option.bind_eq_some_iff.mp H; obtain ⟨⟨t350, t351, t352⟩, A30, H⟩ := H; (try dsimp only at H); have A3 := Aside0.mk A30; clear A30; replace H := Option.bind_eq_some_iff.mp H; obtain ⟨t354, A40, H⟩ := H; (try dsimp only at H); have A4 := Aside0.mk A40; clear A40; replace H := Option.bind_eq_some_iff.mp H; obtain ⟨t355, A50, H⟩ := H; (try dsimp only at H); have A5 := Aside0.mk A50; clear A50; have HC6 := Aside0.mk H; clear H; go_enter Tryz.func3, Tryz.ntmps3
 go_upto_if 15 with (first | ((with_reducible refine gate_callee (f := 5) rfl ?_); refine gl (some 8) Tryz.func5 #[.slice A0 l0.length c0] ?_; (with_reducible refine (mk_New.calls _ _ l0 t347 t348 w _ ?side1 ?side2 ?side3 A2.out).mono ?_); (case side1 => repeat (first | (with_reducible first | exact HB.out | apply below_alloc | apply pw_below_drewN | apply below_drew1) | exact HB.out)); (case side2 => exact HR0.out); (case side3 => exact HC0.out); rintro e w7 ⟨g349, rfl, hi, hb, hb2⟩; refine ⟨_, rfl, ?_⟩; have HI349 := Aside0.mk (hi); replace HB := Aside0.mk (hb); (try clear hb); (try clear hb2); (try clear hk); (try clear hi)) | ((with_reducible refine gate_callee (f := 6) rfl ?_); refine gl (some 9) Tryz.func6 #[.pointer (some ⟨g349, 0, none⟩)] ?_; (with_reducible refine (tp_Loose.calls k g349 t347 t348 t350 t351 t352 w _ ?side1 ?side2 A3.out).mono ?_); (case side1 => repeat (first | (with_reducible first | exact HI349.out | apply IsS41.alloc | apply IsS41.drewN | apply IsS41.drew | apply IsS41.set_1) | exact HI349.out)); (case side2 => repeat (first | (with_reducible first | exact HB.out | apply below_alloc | apply pw_below_drewN | apply below_drew1 | refine below_set ?_ (IsS41.ge HI349.out)) | exact HB.out)); rintro e w8 ⟨rfl, hi, hb, hk⟩; refine ⟨_, rfl, ?_⟩; replace HB := Aside0.mk (hb); replace HI349 := Aside0.mk (hi); (try clear hb); (try clear hb2); (try clear hk); (try clear hi)) | ((with_reducible refine gate_dst (N := 3) rfl ?_); refine bx (N := 3) (cs := #[.int .i64 0, .int .i64 0]) (t := 24) ?_; intro gb353 hg w9 hbox hb; have BK353 := Aside0.mk (hbox); have GW353 := Aside0.mk ((by rw [hg]; exact (below_size (by repeat (first | (with_reducible first | exact HB.out | apply below_alloc | apply pw_below_drewN | apply below_drew1 | refine below_set ?_ (IsS41.ge HI349.out)) | exact HB.out))) : w.heap.size ≤ gb353)); have GE353 := Aside0.mk ((by rw [hg]; exact (below_size (by repeat (first | (with_reducible first | exact HB.out | apply below_alloc | apply pw_below_drewN | apply below_drew1 | refine below_set ?_ (IsS41.ge HI349.out)) | exact HB.out))) : w.heap.size ≤ gb353)); have NB349_353 := Aside0.mk ((by rw [hg]; exact Nat.ne_of_lt (IsS41.lt (show IsS41 w _ g349 t347 t352 from by repeat (first | (with_reducible first | exact HI349.out | apply IsS41.alloc | apply IsS41.drewN | apply IsS41.drew | apply IsS41.set_1) | exact HI349.out))) : g349 ≠ gb353)); have NB353_349 := Aside0.mk ((by rw [hg]; exact Nat.ne_of_gt (IsS41.lt (show IsS41 w _ g349 t347 t352 from by repeat (first | (with_reducible first | exact HI349.out | apply IsS41.alloc | apply IsS41.drewN | apply IsS41.drew | apply IsS41.set_1) | exact HI349.out))) : gb353 ≠ g349)); replace HI349 := Aside0.mk (IsS41.below (by repeat (first | (with_reducible first | exact HI349.out | apply IsS41.alloc | apply IsS41.drewN | apply IsS41.drew | apply IsS41.set_1) | exact HI349.out)) hb); replace HB := Aside0.mk (below_step (by repeat (first | (with_reducible first | exact HB.out | apply below_alloc | apply pw_below_drewN | apply below_drew1 | refine below_set ?_ (IsS41.ge HI349.out)) | exact HB.out)) hb); clear hb hbox hg; obtain ⟨hnb10, hnc10⟩ := n2 NB353_349; have hcz11_0 : w9.cell? ⟨gb353, 0, none⟩ = some (.int .i64 0) := bc BK353 0; have hcz11_1 : w9.cell? ⟨gb353, 1, none⟩ = some (.int .i64 0) := bc BK353 1; have hfz11_0 := blk_frozen BK353.out 0; have hfz11_1 := blk_frozen BK353.out 1) | ((with_reducible refine gate_callee (f := 7) rfl ?_); refine gl (some 11) Tryz.func7 #[.agg #[.int .i64 t350, .int .i64 t351]] ?_; (with_reducible refine (ratio_Format.calls k t350 t351 t354 w _ A4.out HT ?sidet).mono ?_); (case sidet => exact Aside0.mk (by repeat (first | (with_reducible first | exact HB.out | apply below_alloc | apply pw_below_drewN | apply below_drew1 | refine below_set ?_ (IsS41.ge HI349.out) | refine below_set ?_ GE353.out) | exact HB.out))); rintro e w12 ⟨rfl, hb⟩; refine ⟨_, rfl, ?_⟩; replace HI349 := Aside0.mk (IsS41.below (show IsS41 w ((w9.setCell ⟨gb353, 0, none⟩ (.int .i64 t350)).setCell ⟨gb353, 1, none⟩ (.int .i64 t351)) g349 t347 t352 from by repeat (first | (with_reducible first | exact HI349.out | apply IsS41.alloc | apply IsS41.drewN | apply IsS41.drew | apply IsS41.set_1 | refine IsS41.far ?_ NB349_353.out _) | exact HI349.out)) hb); replace BK353 := Aside0.mk (blk_below (g := gb353) (o := .cells #[.int .i64 t350, .int .i64 t351] 24 (0, 0)) (by refine pe ?_; refine blk_put (cs := #[.int .i64 t350, .int .i64 0]) ?_ 1 _ rfl; refine pe ?_; refine blk_put (cs := #[.int .i64 0, .int .i64 0]) ?_ 0 _ rfl; refine pe ?_; exact BK353.out) hb); replace HB := Aside0.mk (below_step (by repeat (first | (with_reducible first | exact HB.out | apply below_alloc | apply pw_below_drewN | apply below_drew1 | refine below_set ?_ (IsS41.ge HI349.out) | refine below_set ?_ GE353.out) | exact HB.out)) hb); (try clear hb); (try clear hb2); (try clear hk); (try clear hi); have hcz13_0 : w12.cell? ⟨gb353, 0, none⟩ = some (.int .i64 t350) := bc BK353 0; have hcz13_1 : w12.cell? ⟨gb353, 1, none⟩ = some (.int .i64 t351) := bc BK353 1; have hfz13_0 := blk_frozen BK353.out 0; have hfz13_1 := blk_frozen BK353.out 1) | ((with_reducible refine gate_callee (f := 8) rfl ?_); refine gl (some 14) Tryz.func8 #[.agg #[.int .i64 t350, .int .i64 t351]] ?_; (with_reducible refine (r1_Format.calls k t350 t351 t355 _ A5.out).mono ?_); rintro e w14 ⟨rfl, hb⟩; refine ⟨_, rfl, ?_⟩; replace HI349 := Aside0.mk (IsS41.below (by repeat (first | (with_reducible first | exact HI349.out | apply IsS41.alloc | apply IsS41.drewN | apply IsS41.drew | apply IsS41.set_1 | refine IsS41.far ?_ NB349_353.out _) | exact HI349.out)) hb); replace BK353 := kb BK353 hb; replace HB := Aside0.mk (below_step (by repeat (first | (with_reducible first | exact HB.out | apply below_alloc | apply pw_below_drewN | apply below_drew1 | refine below_set ?_ (IsS41.ge HI349.out) | refine below_set ?_ GE353.out) | exact HB.out)) hb); (try clear hb); (try clear hb2); (try clear hk); (try clear hi)))
 (try simp only [Act.put, List.setIfInBounds_toArray, List.set_cons_zero, List.set_cons_succ]); have H := HC6.out; clear HC6
 by_cases c15 : t354.toList = t355.toList
 ·rw [if_pos c15] at H; have c15b0 : (t354.toList == t355.toList) = true := beq_iff_eq.mpr c15; have c15b1 : (t354.toList != t355.toList) = false := bne_eq_false_iff_eq.mpr c15; clear c15
  (first | rw [c15b0] | (simp only [i64_w, i32_w]; rw [c15b0]) | skip)
  replace H := Option.bind_eq_some_iff.mp H; obtain ⟨⟨t356, t357, t358⟩, A160, H⟩ := H; (try dsimp only at H); have A16 := Aside0.mk A160; clear A160; replace H := Option.bind_eq_some_iff.mp H; obtain ⟨t360, A170, H⟩ := H; (try dsimp only at H); have A17 := Aside0.mk A170; clear A170; have HC18 := Aside0.mk H; clear H
  go_upto_if 23 with (first | ((with_reducible refine gate_callee (f := 9) rfl ?_); refine gl (some 18) Tryz.func9 #[.string t354] ?_; (with_reducible refine (ratio_Parse.calls k t354 t356 t357 t358 _ A16.out).mono ?_); rintro e w19 ⟨rfl, hb⟩; refine ⟨_, rfl, ?_⟩; replace HI349 := Aside0.mk (IsS41.below (by repeat (first | (with_reducible first | exact HI349.out | apply IsS41.alloc | apply IsS41.drewN | apply IsS41.drew | apply IsS41.set_1 | refine IsS41.far ?_ NB349_353.out _) | exact HI349.out)) hb); replace BK353 := kb BK353 hb; replace HB := Aside0.mk (below_step (by repeat (first | (with_reducible first | exact HB.out | apply below_alloc | apply pw_below_drewN | apply below_drew1 | refine below_set ?_ (IsS41.ge HI349.out) | refine below_set ?_ GE353.out) | exact HB.out)) hb); (try clear hb); (try clear hb2); (try clear hk); (try clear hi)) | ((with_reducible refine gate_dst (N := 5) rfl ?_); refine bx (N := 5) (cs := #[.int .i64 0, .int .i64 0]) (t := 24) ?_; intro gb359 hg w20 hbox hb; have BK359 := Aside0.mk (hbox); have GW359 := Aside0.mk ((by rw [hg]; exact (below_size (by repeat (first | (with_reducible first | exact HB.out | apply below_alloc | apply pw_below_drewN | apply below_drew1 | refine below_set ?_ (IsS41.ge HI349.out) | refine below_set ?_ GE353.out) | exact HB.out))) : w.heap.size ≤ gb359)); have GE359 := Aside0.mk ((by rw [hg]; exact (below_size (by repeat (first | (with_reducible first | exact HB.out | apply below_alloc | apply pw_below_drewN | apply below_drew1 | refine below_set ?_ (IsS41.ge HI349.out) | refine below_set ?_ GE353.out) | exact HB.out))) : w.heap.size ≤ gb359)); have NB353_359 := nl BK353 hg; have NB359_353 := nr BK353 hg; have NB349_359 := Aside0.mk ((by rw [hg]; exact Nat.ne_of_lt (IsS41.lt (show IsS41 w _ g349 t347 t352 from by repeat (first | (with_reducible first | exact HI349.out | apply IsS41.alloc | apply IsS41.drewN | apply IsS41.drew | apply IsS41.set_1 | refine IsS41.far ?_ NB349_353.out _) | exact HI349.out))) : g349 ≠ gb359)); have NB359_349 := Aside0.mk ((by rw [hg]; exact Nat.ne_of_gt (IsS41.lt (show IsS41 w _ g349 t347 t352 from by repeat (first | (with_reducible first | exact HI349.out | apply IsS41.alloc | apply IsS41.drewN | apply IsS41.drew | apply IsS41.set_1 | refine IsS41.far ?_ NB349_353.out _) | exact HI349.out))) : gb359 ≠ g349)); replace HI349 := Aside0.mk (IsS41.below (by repeat (first | (with_reducible first | exact HI349.out | apply IsS41.alloc | apply IsS41.drewN | apply IsS41.drew | apply IsS41.set_1 | refine IsS41.far ?_ NB349_353.out _) | exact HI349.out)) hb); replace BK353 := kb BK353 hb; replace HB := Aside0.mk (below_step (by repeat (first | (with_reducible first | exact HB.out | apply below_alloc | apply pw_below_drewN | apply below_drew1 | refine below_set ?_ (IsS41.ge HI349.out) | refine below_set ?_ GE353.out) | exact HB.out)) hb); clear hb hbox hg; obtain ⟨hnb21, hnc21⟩ := n2 NB359_353; obtain ⟨hnb22, hnc22⟩ := n2 NB359_349; have hcz23_0 : w20.cell? ⟨gb359, 0, none⟩ = some (.int .i64 0) := bc BK359 0; have hcz23_1 : w20.cell? ⟨gb359, 1, none⟩ = some (.int .i64 0) := bc BK359 1; have hfz23_0 := blk_frozen BK359.out 0; have hfz23_1 := blk_frozen BK359.out 1; obtain ⟨hnb24, hnc24⟩ := n2 NB353_349; have hcz25_0 : w20.cell? ⟨gb353, 0, none⟩ = some (.int .i64 t350) := bc BK353 0; have hcz25_1 : w20.cell? ⟨gb353, 1, none⟩ = some (.int .i64 t351) := bc BK353 1; have hfz25_0 := blk_frozen BK353.out 0; have hfz25_1 := blk_frozen BK353.out 1) | ((with_reducible refine gate_callee (f := 10) rfl ?_); refine gl (some 22) Tryz.func10 #[.agg #[.int .i64 t350, .int .i64 t351]] ?_; (with_reducible refine (r1_Valid.calls k t350 t351 t360 _ A17.out).mono ?_); rintro e w26 ⟨rfl, hb⟩; refine ⟨_, rfl, ?_⟩; replace HI349 := Aside0.mk (IsS41.below (show IsS41 w ((w20.setCell ⟨gb359, 0, none⟩ (.int .i64 t356)).setCell ⟨gb359, 1, none⟩ (.int .i64 t357)) g349 t347 t352 from by repeat (first | (with_reducible first | exact HI349.out | apply IsS41.alloc | apply IsS41.drewN | apply IsS41.drew | apply IsS41.set_1 | refine IsS41.far ?_ NB349_353.out _ | refine IsS41.far ?_ NB349_359.out _) | exact HI349.out)) hb); replace BK353 := kb BK353 hb; replace BK359 := Aside0.mk (blk_below (g := gb359) (o := .cells #[.int .i64 t356, .int .i64 t357] 24 (0, 0)) (by refine pe ?_; refine blk_put (cs := #[.int .i64 t356, .int .i64 0]) ?_ 1 _ rfl; refine pe ?_; refine blk_put (cs := #[.int .i64 0, .int .i64 0]) ?_ 0 _ rfl; refine pe ?_; exact BK359.out) hb); replace HB := Aside0.mk (below_step (by repeat (first | (with_reducible first | exact HB.out | apply below_alloc | apply pw_below_drewN | apply below_drew1 | refine below_set ?_ (IsS41.ge HI349.out) | refine below_set ?_ GE353.out | refine below_set ?_ GE359.out) | exact HB.out)) hb); (try clear hb); (try clear hb2); (try clear hk); (try clear hi)))
  (try simp only [Act.put, List.setIfInBounds_toArray, List.set_cons_zero, List.set_cons_succ]); have H := HC18.out; clear HC18
  by_cases c27 : t360 = true
  ·subst c27; (have H1 : (if t358 = 0 then (if (t356 == t350 && (t357 == t351)) = true then ((awardingbodylaw01_awake.f k).bind fun t361 => (some t361)) else (some false)) else (some false)) = some r := by rw [if_pos rfl] at H; exact H); clear H; have H := H1; clear H1
   by_cases c28 : t358 = 0
   ·rw [if_pos c28] at H; have c28b0 : (t358 == 0) = true := beq_iff_eq.mpr c28; have c28b1 : (t358 != 0) = false := bne_eq_false_iff_eq.mpr c28; clear c28
    (first | rw [c28b0] | (simp only [i64_w, i32_w]; rw [c28b0]) | skip)
    by_cases c29 : (t356 == t350 && (t357 == t351)) = true
    ·rw [if_pos c29] at H; have c29b0 : (t356 == t350 && (t357 == t351)) = true := c29; (try (have c29b1 : decide (t356 = t350 && (t357 == t351)) = true := by simpa using c29)); (try (have c29b2 : (t356 == t350 && (t357 == t351)) = true := by simpa using c29)); clear c29; replace H := Option.bind_eq_some_iff.mp H; obtain ⟨t361, A300, H⟩ := H; (try dsimp only at H); have A30 := Aside0.mk A300; clear A300; obtain rfl := Option.some.inj H; obtain ⟨hnb31, hnc31⟩ := n2 NB359_353; obtain ⟨hnb32, hnc32⟩ := n2 NB359_349; have hcz33_0 : w26.cell? ⟨gb359, 0, none⟩ = some (.int .i64 t356) := bc BK359 0; have hcz33_1 : w26.cell? ⟨gb359, 1, none⟩ = some (.int .i64 t357) := bc BK359 1; have hfz33_0 := blk_frozen BK359.out 0; have hfz33_1 := blk_frozen BK359.out 1; obtain ⟨hnb34, hnc34⟩ := n2 NB353_349; have hcz35_0 : w26.cell? ⟨gb353, 0, none⟩ = some (.int .i64 t350) := bc BK353 0; have hcz35_1 : w26.cell? ⟨gb353, 1, none⟩ = some (.int .i64 t351) := bc BK353 1; have hfz35_0 := blk_frozen BK353.out 0; have hfz35_1 := blk_frozen BK353.out 1; (go_wp2_with (first | (go_at_call 11; (with_reducible refine (awardingbodylaw01_awake.calls k  t361 _ A30.out).mono ?_); rintro e w36 ⟨rfl, hb⟩; replace HI349 := Aside0.mk (IsS41.below (by repeat (first | (with_reducible first | exact HI349.out | apply IsS41.alloc | apply IsS41.drewN | apply IsS41.drew | apply IsS41.set_1 | refine IsS41.far ?_ NB349_353.out _ | refine IsS41.far ?_ NB349_359.out _) | exact HI349.out)) hb); replace BK353 := kb BK353 hb; replace BK359 := kb BK359 hb; replace HB := Aside0.mk (below_step (by repeat (first | (with_reducible first | exact HB.out | apply below_alloc | apply pw_below_drewN | apply below_drew1 | refine below_set ?_ (IsS41.ge HI349.out) | refine below_set ?_ GE353.out | refine below_set ?_ GE359.out) | exact HB.out)) hb); (try clear hb); (try clear hb2); (try clear hk); (try clear hi)))); (go_ret); exact ⟨by first | rfl | (simp [errW_none, errW_some] <;> rfl) | (simp [*, errW_none, errW_some] <;> rfl), by repeat (first | (with_reducible first | exact HB.out | apply below_alloc | apply pw_below_drewN | apply below_drew1 | refine below_set ?_ (IsS41.ge HI349.out) | refine below_set ?_ GE353.out | refine below_set ?_ GE359.out) | exact HB.out)⟩
    ·rw [if_neg c29] at H; (have c29b0 : (t356 == t350 && (t357 == t351)) = false := by simpa using c29); (try (have c29b1 : decide (t356 = t350 && (t357 == t351)) = false := by simpa using c29)); (try (have c29b2 : (t356 == t350 && (t357 == t351)) = false := by simpa using c29)); (try (have c29b3 : ¬ (t356 = t350 && (t357 == t351)) := by simpa using c29)); clear c29; obtain rfl := Option.some.inj H; obtain ⟨hnb37, hnc37⟩ := n2 NB359_353; obtain ⟨hnb38, hnc38⟩ := n2 NB359_349; have hcz39_0 : w26.cell? ⟨gb359, 0, none⟩ = some (.int .i64 t356) := bc BK359 0; have hcz39_1 : w26.cell? ⟨gb359, 1, none⟩ = some (.int .i64 t357) := bc BK359 1; have hfz39_0 := blk_frozen BK359.out 0; have hfz39_1 := blk_frozen BK359.out 1; obtain ⟨hnb40, hnc40⟩ := n2 NB353_349; have hcz41_0 : w26.cell? ⟨gb353, 0, none⟩ = some (.int .i64 t350) := bc BK353 0; have hcz41_1 : w26.cell? ⟨gb353, 1, none⟩ = some (.int .i64 t351) := bc BK353 1; have hfz41_0 := blk_frozen BK353.out 0; have hfz41_1 := blk_frozen BK353.out 1; (go_wp2); (go_ret); exact ⟨by first | rfl | (simp [errW_none, errW_some] <;> rfl) | (simp [*, errW_none, errW_some] <;> rfl), by repeat (first | (with_reducible first | exact HB.out | apply below_alloc | apply pw_below_drewN | apply below_drew1 | refine below_set ?_ (IsS41.ge HI349.out) | refine below_set ?_ GE353.out | refine below_set ?_ GE359.out) | exact HB.out)⟩
   ·rw [if_neg c28] at H; have c28b0 : (t358 == 0) = false := beq_eq_false_iff_ne.mpr c28; have c28b1 : (t358 != 0) = true := bne_iff_ne.mpr c28
    (first | rw [c28b0] | (simp only [i64_w, i32_w]; rw [c28b0]) | skip)
    obtain rfl := Option.some.inj H; (go_wp2); (go_ret); exact ⟨by first | rfl | (simp [errW_none, errW_some] <;> rfl) | (simp [*, errW_none, errW_some] <;> rfl), by repeat (first | (with_reducible first | exact HB.out | apply below_alloc | apply pw_below_drewN | apply below_drew1 | refine below_set ?_ (IsS41.ge HI349.out) | refine below_set ?_ GE353.out | refine below_set ?_ GE359.out) | exact HB.out)⟩
  ·replace c27 := Bool.eq_false_iff.mpr c27; subst c27; (have H1 : (if t358 = 7 then ((awardingbodylaw01_awake.f k).bind fun t362 => (some t362)) else (some false)) = some r := by rw [if_neg (show ¬ (false = true) by decide)] at H; exact H); clear H; have H := H1; clear H1
   by_cases c42 : t358 = 7
   ·rw [if_pos c42] at H; have c42b0 : (t358 == 7) = true := beq_iff_eq.mpr c42; have c42b1 : (t358 != 7) = false := bne_eq_false_iff_eq.mpr c42; clear c42; replace H := Option.bind_eq_some_iff.mp H; obtain ⟨t362, A430, H⟩ := H; (try dsimp only at H); have A43 := Aside0.mk A430; clear A430; obtain rfl := Option.some.inj H; (go_wp2_with (first | (go_at_call 11; (with_reducible refine (awardingbodylaw01_awake.calls k  t362 _ A43.out).mono ?_); rintro e w44 ⟨rfl, hb⟩; replace HI349 := Aside0.mk (IsS41.below (by repeat (first | (with_reducible first | exact HI349.out | apply IsS41.alloc | apply IsS41.drewN | apply IsS41.drew | apply IsS41.set_1 | refine IsS41.far ?_ NB349_353.out _ | refine IsS41.far ?_ NB349_359.out _) | exact HI349.out)) hb); replace BK353 := kb BK353 hb; replace BK359 := kb BK359 hb; replace HB := Aside0.mk (below_step (by repeat (first | (with_reducible first | exact HB.out | apply below_alloc | apply pw_below_drewN | apply below_drew1 | refine below_set ?_ (IsS41.ge HI349.out) | refine below_set ?_ GE353.out | refine below_set ?_ GE359.out) | exact HB.out)) hb); (try clear hb); (try clear hb2); (try clear hk); (try clear hi)))); (go_ret); exact ⟨by first | rfl | (simp [errW_none, errW_some] <;> rfl) | (simp [*, errW_none, errW_some] <;> rfl), by repeat (first | (with_reducible first | exact HB.out | apply below_alloc | apply pw_below_drewN | apply below_drew1 | refine below_set ?_ (IsS41.ge HI349.out) | refine below_set ?_ GE353.out | refine below_set ?_ GE359.out) | exact HB.out)⟩
   ·rw [if_neg c42] at H; have c42b0 : (t358 == 7) = false := beq_eq_false_iff_ne.mpr c42; have c42b1 : (t358 != 7) = true := bne_iff_ne.mpr c42; obtain rfl := Option.some.inj H; (go_wp2); (go_ret); exact ⟨by first | rfl | (simp [errW_none, errW_some] <;> rfl) | (simp [*, errW_none, errW_some] <;> rfl), by repeat (first | (with_reducible first | exact HB.out | apply below_alloc | apply pw_below_drewN | apply below_drew1 | refine below_set ?_ (IsS41.ge HI349.out) | refine below_set ?_ GE353.out | refine below_set ?_ GE359.out) | exact HB.out)⟩
 ·rw [if_neg c15] at H; have c15b0 : (t354.toList == t355.toList) = false := beq_eq_false_iff_ne.mpr c15; have c15b1 : (t354.toList != t355.toList) = true := bne_iff_ne.mpr c15
  (first | rw [c15b0] | (simp only [i64_w, i32_w]; rw [c15b0]) | skip)
  obtain rfl := Option.some.inj H; (go_wp2); (go_ret); exact ⟨by first | rfl | (simp [errW_none, errW_some] <;> rfl) | (simp [*, errW_none, errW_some] <;> rfl), by repeat (first | (with_reducible first | exact HB.out | apply below_alloc | apply pw_below_drewN | apply below_drew1 | refine below_set ?_ (IsS41.ge HI349.out) | refine below_set ?_ GE353.out) | exact HB.out)⟩

/-- THE ONE PURE STATEMENT of awardingbodylaw01_RatioBack: yours. -/
def awardingbodylaw01_RatioBack.Pure : Prop := ∀ (l0 : List Int), l0.length ≤ maxLen → l0.length * 8 ≤ 140737488351232 → (∀ x ∈ l0, (Lit.int .i64 x).wf = true) → ∃ k, awardingbodylaw01_RatioBack.f k l0 = some true
theorem awardingbodylaw01_RatioBack.walk (P : awardingbodylaw01_RatioBack.Pure) (a0 : Option Addr) (len0 cap0 : Nat) (z0 : List Int) (w : World) (HT : Aside0 (Tab w)) (w0 : (a0 = none ∧ len0 = 0 ∧ cap0 = 0 ∧ z0 = []) ∨ ∃ x, a0 = some x ∧ len0 ≤ cap0 ∧ cap0 ≤ maxLen ∧ z0.length = cap0 ∧ (∀ i, i < z0.length → w.cell? (x.add i) = some (.int .i64 (z0.getD i 0))) ∧ ∀ n ∈ z0, (Lit.int .i64 n).wf = true) (y0 : len0 * 8 ≤ 140737488351232) :
  Calls Tryz.prog 3 #[.slice a0 len0 cap0] w fun e w' => e = .returned (.bool true) ∧ Below w.heap.size w w' := by
 obtain ⟨l0, rfl, hr0, hm0, hw0, hc0⟩ := ReadsInt.ofRowC w0; obtain ⟨k, h⟩ := P l0 hm0 y0 hw0; refine (awardingbodylaw01_RatioBack.calls k _ _ l0 true w (Kd.C_of_reads (d := (0 : Int)) (h1 := fun _ => rfl) hr0) hc0 HT h).mono ?_; rintro e w' ⟨rfl, hd⟩; exact ⟨rfl, hd⟩

end Go.Proofs.YtbapkiclgkddcaaGreatDoor.G

/- Texts of digits: what Trim, ParseUint and the reference's number tell of them. -/
namespace Go.Proofs.YtbapkiclgkddcaaGreatDoor.Mth
open Go.RowKit Go.Proofs.YtbapkiclgkddcaaGreatDoor.G Go.Proofs.YtbapkiclgkddcaaGreatDoor.Given Go.Proofs.YtbapkiclgkddcaaGreatDoorW.PrintWords Go.Proofs.YtbapkiclgkddcaaGreatDoorW.PrintLast Go.Proofs.YtbapkiclgkddcaaGreatDoorW.PrintMore
set_option linter.unusedVariables false
def isD (b : UInt8) : Bool := decide (48 ≤ b.toNat) && decide (b.toNat ≤ 57)
def allD (l : List UInt8) : Bool := l.all isD
def dval (acc : Nat) : List UInt8 → Nat
  | [] => acc
  | c :: r => dval (acc * 10 + (c.toNat - 48)) r
def digs : List UInt8 := [48, 49, 50, 51, 52, 53, 54, 55, 56, 57]
theorem digs_eq (b : UInt8) : digs.contains b = isD b := by
  rw [Bool.eq_iff_iff]; unfold isD digs; simp only [List.contains_eq_mem, List.mem_cons, List.not_mem_nil, or_false, decide_eq_true_eq, Bool.and_eq_true, ← UInt8.toNat_inj]; constructor
  · intro h
    (have e : ∀ n : Nat, n < 256 → (OfNat.ofNat n : UInt8).toNat = n := fun n hn => by simp [UInt8.toNat_ofNat, Nat.mod_eq_of_lt hn]); simp at h; omega
  · intro h
    simp; omega
theorem dw_nil (p : UInt8 → Bool) : ∀ l : List UInt8, l.dropWhile p = [] ↔ ∀ x ∈ l, p x = true := by
  intro l
  induction l with
  | nil => simp
  | cons c r ih =>
    cases hc : p c with
    | true => rw [List.dropWhile_cons_of_pos hc, ih]; simp [hc]
    | false =>
      rw [List.dropWhile_cons_of_neg (by rw [hc]; simp)]; constructor
      · intro h; cases h
      · intro h; have := h c (by simp); rw [hc] at this; cases this
theorem dw_head (p : UInt8 → Bool) : ∀ (l : List UInt8) (y : UInt8) (ys : List UInt8), l.dropWhile p = y :: ys → p y = false := by
  intro l
  induction l with
  | nil => intro y ys h; cases h
  | cons c r ih =>
    intro y ys h
    cases hc : p c with
    | true => rw [List.dropWhile_cons_of_pos hc] at h; exact ih y ys h
    | false =>
      rw [List.dropWhile_cons_of_neg (by rw [hc]; simp)] at h; injection h with h1 h2; rw [← h1]; exact hc
theorem trim_all (l : List UInt8) : ((Lib.trimS l digs) = []) ↔ allD l = true := by
  have e : (fun x : UInt8 => digs.contains x) = isD := funext digs_eq
  have e2 : Lib.trimS l digs = ((l.reverse.dropWhile (fun x => digs.contains x)).reverse).dropWhile (fun x => digs.contains x) := by
    first | rfl | (unfold Lib.trimS Lib.trimLeftS Lib.trimRightS; rfl)
  rw [e2, e]; unfold allD; rw [dw_nil, List.all_eq_true]; constructor
  · intro h
    have h2 : l.reverse.dropWhile isD = [] := by
      cases hc : l.reverse.dropWhile isD with
      | nil => rfl
      | cons y ys =>
        exfalso
        have h3 := h y (by rw [hc]; simp); have h4 := dw_head isD _ _ _ hc; rw [h3] at h4; cases h4
    intro x hx; exact (dw_nil isD _).1 h2 x (by simpa using hx)
  · intro h x hx
    (have : x ∈ l.reverse.dropWhile isD := by simpa using hx); exact h x (by simpa using (List.dropWhile_sublist isD).subset this)
theorem digits_eq (s : ByteArray) (n : Nat) (hs : s.size ≤ 9223372036854775807) : ratio_digits.f s n = some (decide (1 ≤ s.size ∧ s.size ≤ n) && allD s.data.toList) := by
  unfold ratio_digits.f
  by_cases h1 : (s.size : Int) ≥ 1
  · rw [if_pos h1]
    by_cases h2 : (s.size : Int) ≤ (n : Int)
    · rw [if_pos h2, decide_eq_true (show 1 ≤ s.size ∧ s.size ≤ n by omega), Bool.true_and]
      unfold strings_Trim.f; rw [if_pos ⟨hs, by decide, by decide⟩, Option.bind_some]
      congr 1
      rw [Bool.eq_iff_iff, beq_iff_eq, ← trim_all, Lib.toList_data]; rfl
    · rw [if_neg h2, decide_eq_false (show ¬ (1 ≤ s.size ∧ s.size ≤ n) by omega), Bool.false_and]
  · rw [if_neg h1, decide_eq_false (show ¬ (1 ≤ s.size ∧ s.size ≤ n) by omega), Bool.false_and]
theorem isD_bd {c : UInt8} (h : isD c = true) : 48 ≤ c.toNat ∧ c.toNat ≤ 57 := by
  unfold isD at h
  simpa using h
theorem parseM_gen (M B : Nat) (hB : 10 * B ≤ M) (hB2 : B ≤ 1844674407370955162) : ∀ (l : List UInt8) (acc n : Nat), allD l = true → l.length ≤ n → n ≤ 19 → (∀ a m, m ≤ n → a < 10 ^ (19 - (m + 1)) → a < B) → acc < 10 ^ (19 - l.length) → Lib.parseUintM M acc l = .ok (dval acc l) ∧ dval acc l < 10 ^ 19 := by
  intro l
  induction l with
  | nil => intro acc n _ _ _ _ h; exact ⟨rfl, h⟩
  | cons c r ih =>
    intro acc n ha hl hn hq h; unfold allD at ha; rw [List.all_cons, Bool.and_eq_true] at ha; obtain ⟨b1, b2⟩ := isD_bd ha.1; rw [List.length_cons] at hl h; (have e : 19 - r.length = (19 - (r.length + 1)) + 1 := by omega); have h5 := hq acc r.length (by omega) h; (have h2 : acc * 10 + (c.toNat - 48) < 10 ^ (19 - r.length) := by rw [e, Nat.pow_succ]; omega); have i := ih (acc * 10 + (c.toNat - 48)) n ha.2 (by omega) hn hq h2; have hd : dval acc (c :: r) = dval (acc * 10 + (c.toNat - 48)) r := rfl; rw [hd, ← i.1]; refine ⟨?_, i.2⟩; rw [Lib.parseUintM]; rw [if_pos ⟨b1, b2⟩, if_neg (by omega), if_neg (by omega)]
theorem lt_B (a m : Nat) (h : a < 10 ^ (19 - (m + 1))) : a < 1000000000000000000 := Nat.lt_of_lt_of_le h (Nat.le_trans (Nat.pow_le_pow_right (by omega) (show 19 - (m + 1) ≤ 18 by omega)) (by decide))
theorem parseU_eq (s : ByteArray) (ha : allD s.data.toList = true) (h1 : 1 ≤ s.size) (h2 : s.size ≤ 19) : parseU s = some (dval 0 s.data.toList) ∧ dval 0 s.data.toList < 10 ^ 19 := by
  (have hl : s.data.toList.length = s.size := by simp); have hm := parseM_gen (2 ^ 64 - 1) 1000000000000000000 (by decide) (by decide) s.data.toList 0 19 ha (by omega) (by omega) (fun a m _ h => lt_B a m h) (Nat.pow_pos (by omega)); refine ⟨?_, hm.2⟩; unfold parseU Lib.parseUintB; rw [if_pos (by omega), if_neg (fun h => by rw [h] at hl; simp at hl; omega), hm.1]
end Go.Proofs.YtbapkiclgkddcaaGreatDoor.Mth

/- Plain arithmetic, proved for all natural numbers in the stated bounds: division of a number of two digits by schoolbook quotient digits (Knuth's step), and long division bit by bit. -/
namespace Go.Proofs.YtbapkiclgkddcaaGreatDoor.Mth

/-- What the loop of a quotient digit keeps: u = q v1 + r, q not below the true digit, q small. -/
structure Kn (v1 v0 u d q r : Nat) : Prop where
  e : u = q * v1 + r
  ge : (u * 4294967296 + d) / (v1 * 4294967296 + v0) ≤ q
  le : q ≤ 4294967296 + 1
  v1lo : 2147483648 ≤ v1
  v1hi : v1 < 4294967296
  v0hi : v0 < 4294967296
  uhi : u < v1 * 4294967296 + v0
  dhi : d < 4294967296

theorem Kn.start {v1 v0 u d : Nat} (v1lo : 2147483648 ≤ v1) (v1hi : v1 < 4294967296) (v0hi : v0 < 4294967296) (uhi : u < v1 * 4294967296 + v0) (dhi : d < 4294967296) :
    Kn v1 v0 u d (u / v1) (u % v1) := by
  refine ⟨?_, ?_, ?_, v1lo, v1hi, v0hi, uhi, dhi⟩
  · rw [Nat.mul_comm]; exact (Nat.div_add_mod u v1).symm
  · -- Q ≤ u / v1
    (have hv : 0 < v1 := by omega); rw [Nat.le_div_iff_mul_le hv]; have h1 : (u * 4294967296 + d) / (v1 * 4294967296 + v0) * (v1 * 4294967296 + v0) ≤ u * 4294967296 + d := Nat.div_mul_le_self _ _; (generalize (u * 4294967296 + d) / (v1 * 4294967296 + v0) = Q at *); (have h2 : Q * (v1 * 4294967296 + v0) = Q * v1 * 4294967296 + Q * v0 := by rw [Nat.mul_add, Nat.mul_assoc]); rw [h2] at h1
    have : Q * v1 * 4294967296 < (u + 1) * 4294967296 := by
      have : (u + 1) * 4294967296 = u * 4294967296 + 4294967296 := Nat.succ_mul _ _; omega
    have := Nat.lt_of_mul_lt_mul_right this; omega
  · have hv : 0 < v1 := by omega
    have : u / v1 < 4294967296 + 2 := by
      rw [Nat.div_lt_iff_lt_mul hv]; (have : (4294967296 + 2) * v1 = v1 * 4294967296 + 2 * v1 := by rw [Nat.add_mul, Nat.mul_comm]); omega
    omega

theorem Kn.q_lt {v1 v0 u d q r : Nat} (h : Kn v1 v0 u d q r) : (u * 4294967296 + d) / (v1 * 4294967296 + v0) < 4294967296 := by
  (have hv : 0 < v1 * 4294967296 + v0 := by have := h.uhi; omega); rw [Nat.div_lt_iff_lt_mul hv]; have h1 : (u + 1) * 4294967296 ≤ (v1 * 4294967296 + v0) * 4294967296 := Nat.mul_le_mul_right _ h.uhi; have h2 : (u + 1) * 4294967296 = u * 4294967296 + 4294967296 := Nat.succ_mul _ _; have := h.dhi; omega

theorem Kn.qv {v1 v0 u d q r : Nat} (h : Kn v1 v0 u d q r) : q * (v1 * 4294967296 + v0) = u * 4294967296 - r * 4294967296 + q * v0 ∧ r * 4294967296 ≤ u * 4294967296 := by
  (have h2 : q * (v1 * 4294967296 + v0) = q * v1 * 4294967296 + q * v0 := by rw [Nat.mul_add, Nat.mul_assoc]); (have h3 : u * 4294967296 = q * v1 * 4294967296 + r * 4294967296 := by rw [h.e, Nat.add_mul]); omega

/-- the digit is too great -/
theorem Kn.next {v1 v0 u d q r : Nat} (h : Kn v1 v0 u d q r) (ht : 4294967296 ≤ q ∨ 4294967296 * r + d < q * v0) : 1 ≤ q ∧ Kn v1 v0 u d (q - 1) (r + v1) := by
  have hlt : (u * 4294967296 + d) / (v1 * 4294967296 + v0) < q := by
    rcases ht with ht | ht
    · exact Nat.lt_of_lt_of_le h.q_lt ht
    · have hv : 0 < v1 * 4294967296 + v0 := by have := h.uhi; omega
      rw [Nat.div_lt_iff_lt_mul hv]; have := h.qv; omega
  have hq : 1 ≤ q := Nat.lt_of_le_of_lt (Nat.zero_le _) hlt; refine ⟨hq, ?_, by omega, by have := h.le; omega, h.v1lo, h.v1hi, h.v0hi, h.uhi, h.dhi⟩; have := h.e; obtain ⟨q', rfl⟩ : ∃ q', q = q' + 1 := ⟨q - 1, by omega⟩; rw [Nat.add_sub_cancel]; rw [Nat.succ_mul] at this; omega

theorem Kn.done {v1 v0 u d q r : Nat} (h : Kn v1 v0 u d q r) (ht : q * v0 ≤ 4294967296 * r + d) : q = (u * 4294967296 + d) / (v1 * 4294967296 + v0) := by
  have hv : 0 < v1 * 4294967296 + v0 := by have := h.uhi; omega
  have : q ≤ (u * 4294967296 + d) / (v1 * 4294967296 + v0) := by
    rw [Nat.le_div_iff_mul_le hv]; have := h.qv; omega
  have := h.ge; omega

theorem Kn.qv0 {v1 v0 u d q r : Nat} (h : Kn v1 v0 u d q r) : q * v0 < 18446744073709551616 := by
  have h1 : q * v0 ≤ (4294967296 + 1) * (4294967296 - 1) := Nat.mul_le_mul h.le (by have := h.v0hi; omega); omega

theorem Kn.brk {v1 v0 u d q r : Nat} (h : Kn v1 v0 u d q r) (hr : 4294967296 ≤ r) : q * v0 ≤ 4294967296 * r + d := by
  have h1 : q * v0 ≤ (4294967296 + 1) * (4294967296 - 1) := Nat.mul_le_mul h.le (by have := h.v0hi; omega); have h2 : 4294967296 * 4294967296 ≤ 4294967296 * r := Nat.mul_le_mul_left _ hr; omega

theorem digits_two' (B : Nat) {V u d1 d0 q1 m : Nat} (hV : 0 < V) (e : V * q1 + m = u * B + d1) :
    (u * (B * B) + (d1 * B + d0)) / V = q1 * B + (m * B + d0) / V ∧ (u * (B * B) + (d1 * B + d0)) % V = (m * B + d0) % V := by
  have e2 : u * (B * B) + (d1 * B + d0) = V * (q1 * B) + (m * B + d0) := by
    (have : (V * q1 + m) * B = (u * B + d1) * B := by rw [e]); rw [Nat.add_mul, Nat.add_mul, Nat.mul_assoc, Nat.mul_assoc] at this; omega
  refine ⟨?_, ?_⟩
  · rw [e2, Nat.mul_add_div hV]
  · rw [e2, Nat.mul_add_mod]
/-- The two digits together. -/
theorem digits_two {V u d1 d0 q1 m : Nat} (hV : 0 < V) (e : V * q1 + m = u * 4294967296 + d1) :
    (u * 18446744073709551616 + (d1 * 4294967296 + d0)) / V = q1 * 4294967296 + (m * 4294967296 + d0) / V ∧ (u * 18446744073709551616 + (d1 * 4294967296 + d0)) % V = (m * 4294967296 + d0) % V :=
  digits_two' 4294967296 hV e

/-- Scaling by s. -/
theorem unscale {N y s q r : Nat} (hq : q = (N * 2 ^ s) / (y * 2 ^ s)) (hr : r = (N * 2 ^ s) % (y * 2 ^ s)) : q = N / y ∧ r / 2 ^ s = N % y := by
  have hs : 0 < 2 ^ s := Nat.pow_pos (by decide); rw [Nat.mul_div_mul_right _ _ hs] at hq; rw [Nat.mul_mod_mul_right] at hr; rw [hr, Nat.mul_div_cancel _ hs]; exact ⟨hq, rfl⟩
end Go.Proofs.YtbapkiclgkddcaaGreatDoor.Mth

/- math/bits.Div64 and Rem64 as the printed functions compute them: quotient and remainder of a number of 128 bits, for a divisor greater than the upper half (Div64) and for each divisor that is not 0 (Rem64). -/
namespace Go.Proofs.YtbapkiclgkddcaaGreatDoor.Mth
open Go.RowKit Go.Proofs.YtbapkiclgkddcaaGreatDoor.G Go.Proofs.YtbapkiclgkddcaaGreatDoor.Given Go.Proofs.YtbapkiclgkddcaaGreatDoorW.PrintWords Go.Proofs.YtbapkiclgkddcaaGreatDoorW.PrintLast Go.Proofs.YtbapkiclgkddcaaGreatDoorW.PrintMore
set_option linter.unusedVariables false

theorem wu (n : Int) : IntKind.u64.wrap n = n % 18446744073709551616 := IntKind.wrap_u64 n
theorem evk {α : Type} {g : Nat → Option α} {f : Nat → Option α} {r : α} (h : ∀ k, g (k + 1) = f k) (k : Ev f r) : Ev g r := Ev.step h k
theorem ev_some {α : Type} {g : Nat → Option α} {r : α} (h : ∀ k, g (k + 1) = some r) : Ev g r := Ev.step h (Ev.now r)

/-- What the second digit's loop ends in. -/
theorem fin_val {V s v1 v0 d q1 r u q : Nat} (hV : V = v1 * 4294967296 + v0) (hK : Kn v1 v0 u d q r) (hq1 : q1 < 4294967296) (hs : s ≤ 64) (hq : q = (u * 4294967296 + d) / V) :
    (some (IntKind.u64.wrap ((IntKind.u64.wrap ((q1 : Int) * 4294967296)) + (q : Int)), shr .u64 (IntKind.u64.wrap ((IntKind.u64.wrap ((IntKind.u64.wrap ((u : Int) * 4294967296)) + (d : Int))) - (IntKind.u64.wrap ((q : Int) * (V : Int))))) (s : Int)) : Option (Int × Int))
      = some (((q1 * 4294967296 + q : Nat) : Int), (((u * 4294967296 + d) % V / 2 ^ s : Nat) : Int)) := by
  have hlt := hK.q_lt; rw [← hV, ← hq] at hlt; (have hVp : 0 < V := by have := hK.uhi; omega); have hm : (u * 4294967296 + d) % V < V := Nat.mod_lt _ hVp; have he := Nat.div_add_mod (u * 4294967296 + d) V; rw [← hq] at he; have hc := Nat.mul_comm V q; have hv1 := hK.v1hi; have hv0 := hK.v0hi
  have e1 : IntKind.u64.wrap ((IntKind.u64.wrap ((q1 : Int) * 4294967296)) + (q : Int)) = ((q1 * 4294967296 + q : Nat) : Int) := by
    simp only [wu]; omega
  have e2 : IntKind.u64.wrap ((IntKind.u64.wrap ((IntKind.u64.wrap ((u : Int) * 4294967296)) + (d : Int))) - (IntKind.u64.wrap ((q : Int) * (V : Int)))) = (((u * 4294967296 + d) % V : Nat) : Int) := by
    have e3 : (q : Int) * (V : Int) = ((q * V : Nat) : Int) := (Int.natCast_mul q V).symm; rw [e3]; (generalize (u * 4294967296 + d) % V = m at *); (generalize q * V = P at *); simp only [wu]; omega
  rw [e1, e2]; unfold shr; rw [show min (s : Int).toNat IntKind.u64.bits = s from by simp [IntKind.bits]; omega]; rfl

theorem l1_ev {V s v1 v0 d q1 u : Nat} (hV : V = v1 * 4294967296 + v0) (hq1 : q1 < 4294967296) (hs : s ≤ 64) : ∀ q r, Kn v1 v0 u d q r → r < 4294967296 →
    Ev (fun k => bits_Div64.l1 k V s v1 v0 d q1 r u q) (((q1 * 4294967296 + (u * 4294967296 + d) / V : Nat) : Int), (((u * 4294967296 + d) % V / 2 ^ s : Nat) : Int)) := by
  intro q
  induction q with
  | zero =>
    intro r hK hr; (have hd : 0 = (u * 4294967296 + d) / V := by rw [hV]; exact hK.done (by omega)); refine Ev.step (f := fun k => bits_Div64.j4 k V s v1 v0 d q1 r u (0 : Nat) false) (fun k => ?_) (ev_some (fun k => ?_))
    · simp only [bits_Div64.l1]
      rw [if_neg (by omega)]
      congr 1
      have := hK.dhi; simp only [wu, decide_eq_false_iff_not]; omega
    · simp only [bits_Div64.j4]
      rw [if_neg (by decide), if_pos (by omega)]; have := fin_val (s := s) hV hK hq1 hs hd; rw [← hd]; exact this
  | succ q ih =>
    intro r hK hr; have hv0 := hK.v0hi; have hd' := hK.dhi; have hP := hK.qv0; have hle := hK.le
    by_cases ht : 4294967296 ≤ q + 1 ∨ 4294967296 * r + d < (q + 1) * v0
    · have hj : ∀ k, bits_Div64.l1 (k + 1) V s v1 v0 d q1 r u (q + 1 : Nat) = bits_Div64.j4 k V s v1 v0 d q1 r u (q + 1 : Nat) true := by
        intro k; simp only [bits_Div64.l1]
        by_cases h1 : 4294967296 ≤ q + 1
        · rw [if_pos (by omega)]
        · rw [if_neg (by omega)]
          congr 1
          (have ht2 : 4294967296 * r + d < (q + 1) * v0 := by rcases ht with h | h; exact absurd h h1; exact h); rw [show ((q + 1 : Nat) : Int) * (v0 : Int) = (((q + 1) * v0 : Nat) : Int) from (Int.natCast_mul _ _).symm]; (generalize (q + 1) * v0 = P at *); simp only [wu, decide_eq_true_eq]; omega
      obtain ⟨_, hK'⟩ := hK.next ht; rw [Nat.add_sub_cancel] at hK'; have hv1 := hK.v1hi
      by_cases hb : 4294967296 ≤ r + v1
      · have hd := hK'.done (hK'.brk hb)
        rw [← hV] at hd; refine Ev.step hj (ev_some (fun k => ?_)); simp only [bits_Div64.j4]; rw [if_pos trivial, if_pos (by simp only [wu]; omega), if_pos (by omega)]; have := fin_val (s := s) hV hK' hq1 hs hd; rw [show IntKind.u64.wrap (((q + 1 : Nat) : Int) - 1) = (q : Int) from by simp only [wu]; omega]; rw [← hd]; exact this
      · refine Ev.step hj (Ev.step (fun k => ?_) (ih (r + v1) hK' (by omega)))
        simp only [bits_Div64.j4]; rw [if_pos trivial, if_neg (by simp only [wu]; omega)]; rw [show IntKind.u64.wrap (((q + 1 : Nat) : Int) - 1) = (q : Int) from by simp only [wu]; omega]; rw [show IntKind.u64.wrap ((r : Int) + (v1 : Int)) = ((r + v1 : Nat) : Int) from by simp only [wu]; omega]
    · have hn : (q + 1) * v0 ≤ 4294967296 * r + d := by omega
      have hd := hK.done hn; rw [← hV] at hd; refine Ev.step (f := fun k => bits_Div64.j4 k V s v1 v0 d q1 r u (q + 1 : Nat) false) (fun k => ?_) (ev_some (fun k => ?_))
      · simp only [bits_Div64.l1]
        rw [if_neg (by omega)]
        congr 1
        rw [show ((q + 1 : Nat) : Int) * (v0 : Int) = (((q + 1) * v0 : Nat) : Int) from (Int.natCast_mul _ _).symm]; (generalize (q + 1) * v0 = P at *); simp only [wu, decide_eq_false_iff_not]; omega
      · simp only [bits_Div64.j4]
        rw [if_neg (by decide), if_pos (by omega)]; have := fin_val (s := s) hV hK hq1 hs hd; rw [← hd]; exact this

theorem j2_ev' {V s v1 v0 d1 d0 q1 u m : Nat} (hV : V = v1 * 4294967296 + v0) (hs : s ≤ 64) (v1lo : 2147483648 ≤ v1) (v1hi : v1 < 4294967296) (v0hi : v0 < 4294967296) (d1hi : d1 < 4294967296) (d0hi : d0 < 4294967296) (uhi : u < V) (hq1 : q1 < 4294967296) (he : V * q1 + m = u * 4294967296 + d1) (hm : m < V) :
    Ev (fun k => bits_Div64.j2 k V s v1 v0 u d1 d0 q1) (((q1 * 4294967296 + (m * 4294967296 + d0) / V : Nat) : Int), (((m * 4294967296 + d0) % V / 2 ^ s : Nat) : Int)) := by
  have hVp : 0 < V := by omega
  have e2 : IntKind.u64.wrap ((IntKind.u64.wrap ((IntKind.u64.wrap ((u : Int) * 4294967296)) + (d1 : Int))) - (IntKind.u64.wrap ((q1 : Int) * (V : Int)))) = (m : Int) := by
    (have e3 : (q1 : Int) * (V : Int) = ((V * q1 : Nat) : Int) := by rw [Nat.mul_comm]; exact (Int.natCast_mul q1 V).symm); rw [e3]; obtain ⟨P, hP⟩ : ∃ P, V * q1 = P := ⟨_, rfl⟩; rw [hP] at he ⊢; simp only [wu]; omega
  have hK := Kn.start (u := m) (d := d0) v1lo v1hi v0hi (by omega) d0hi; have hmq : m / v1 ≤ 4294967297 := hK.le; refine Ev.step (fun k => ?_) (l1_ev hV hq1 hs _ _ hK (by have := Nat.mod_lt m (show 0 < v1 by omega); omega)); simp only [bits_Div64.j2]; rw [if_neg (by omega), e2]; have e4 : Int.tdiv (m : Int) (v1 : Int) = ((m / v1 : Nat) : Int) := rfl
  have e5 : IntKind.u64.wrap (((m / v1 : Nat) : Int)) = ((m / v1 : Nat) : Int) := by
    obtain ⟨Q, hQ⟩ : ∃ Q, m / v1 = Q := ⟨_, rfl⟩; rw [hQ] at hmq ⊢; simp only [wu]; omega
  rw [e4, e5]
  have e6 : IntKind.u64.wrap ((m : Int) - IntKind.u64.wrap (((m / v1 : Nat) : Int) * (v1 : Int))) = ((m % v1 : Nat) : Int) := by
    have h1 := Nat.div_add_mod m v1; (have h2 : ((m / v1 : Nat) : Int) * (v1 : Int) = ((v1 * (m / v1) : Nat) : Int) := by rw [Nat.mul_comm]; exact (Int.natCast_mul _ _).symm); rw [h2]; obtain ⟨P, hP⟩ : ∃ P, v1 * (m / v1) = P := ⟨_, rfl⟩; rw [hP] at h1 ⊢; simp only [wu]; omega
  rw [e6]

/-- The first digit's loop, and the second behind it. -/
theorem j2_ev {V s v1 v0 d1 d0 q1 u : Nat} (hV : V = v1 * 4294967296 + v0) (hs : s ≤ 64) (v1lo : 2147483648 ≤ v1) (v1hi : v1 < 4294967296) (v0hi : v0 < 4294967296) (d1hi : d1 < 4294967296) (d0hi : d0 < 4294967296) (uhi : u < V) (hq1 : q1 < 4294967296) (hd : q1 = (u * 4294967296 + d1) / V) :
    Ev (fun k => bits_Div64.j2 k V s v1 v0 u d1 d0 q1) (((u * 18446744073709551616 + (d1 * 4294967296 + d0)) / V : Nat), (((u * 18446744073709551616 + (d1 * 4294967296 + d0)) % V / 2 ^ s : Nat) : Int)) := by
  (have hVp : 0 < V := by omega); have he := Nat.div_add_mod (u * 4294967296 + d1) V; rw [← hd] at he; obtain ⟨a, b⟩ := digits_two (d0 := d0) hVp he; rw [a, b]; exact j2_ev' hV hs v1lo v1hi v0hi d1hi d0hi uhi hq1 he (Nat.mod_lt _ hVp)

theorem l0_ev {V s v1 v0 d1 d0 u : Nat} (hV : V = v1 * 4294967296 + v0) (hs : s ≤ 64) (v1lo : 2147483648 ≤ v1) (v1hi : v1 < 4294967296) (v0hi : v0 < 4294967296) (d1hi : d1 < 4294967296) (d0hi : d0 < 4294967296) (uhi : u < V) :
    ∀ q r, Kn v1 v0 u d1 q r → r < 4294967296 →
    Ev (fun k => bits_Div64.l0 k V s v1 v0 u d1 d0 q r) (((u * 18446744073709551616 + (d1 * 4294967296 + d0)) / V : Nat), (((u * 18446744073709551616 + (d1 * 4294967296 + d0)) % V / 2 ^ s : Nat) : Int)) := by
  have hend : ∀ q r, Kn v1 v0 u d1 q r → q = (u * 4294967296 + d1) / V → Ev (fun k => bits_Div64.j2 k V s v1 v0 u d1 d0 q) (((u * 18446744073709551616 + (d1 * 4294967296 + d0)) / V : Nat), (((u * 18446744073709551616 + (d1 * 4294967296 + d0)) % V / 2 ^ s : Nat) : Int)) := by
    intro q r hK hd; have hl := hK.q_lt; rw [← hV, ← hd] at hl; exact j2_ev hV hs v1lo v1hi v0hi d1hi d0hi uhi hl hd
  intro q
  induction q with
  | zero =>
    intro r hK hr; (have hd : 0 = (u * 4294967296 + d1) / V := by rw [hV]; exact hK.done (by omega)); refine Ev.step (f := fun k => bits_Div64.j1 k V s v1 v0 u d1 d0 (0 : Nat) r false) (fun k => ?_) (Ev.step (fun k => ?_) (hend 0 r hK hd))
    · simp only [bits_Div64.l0]
      rw [if_neg (by omega)]
      congr 1
      simp only [wu, decide_eq_false_iff_not]; omega
    · simp only [bits_Div64.j1]
      rw [if_neg (by decide)]
  | succ q ih =>
    intro r hK hr; have hP := hK.qv0; have hle := hK.le
    by_cases ht : 4294967296 ≤ q + 1 ∨ 4294967296 * r + d1 < (q + 1) * v0
    · have hj : ∀ k, bits_Div64.l0 (k + 1) V s v1 v0 u d1 d0 (q + 1 : Nat) r = bits_Div64.j1 k V s v1 v0 u d1 d0 (q + 1 : Nat) r true := by
        intro k; simp only [bits_Div64.l0]
        by_cases h1 : 4294967296 ≤ q + 1
        · rw [if_pos (by omega)]
        · rw [if_neg (by omega)]
          congr 1
          (have ht2 : 4294967296 * r + d1 < (q + 1) * v0 := by rcases ht with h | h; exact absurd h h1; exact h); rw [show ((q + 1 : Nat) : Int) * (v0 : Int) = (((q + 1) * v0 : Nat) : Int) from (Int.natCast_mul _ _).symm]; (generalize (q + 1) * v0 = P at *); simp only [wu, decide_eq_true_eq]; omega
      obtain ⟨_, hK'⟩ := hK.next ht; rw [Nat.add_sub_cancel] at hK'
      by_cases hb : 4294967296 ≤ r + v1
      · have hd := hK'.done (hK'.brk hb)
        rw [← hV] at hd; refine Ev.step hj (Ev.step (fun k => ?_) (hend q _ hK' hd)); simp only [bits_Div64.j1]; rw [if_pos trivial, if_pos (by simp only [wu]; omega)]; rw [show IntKind.u64.wrap (((q + 1 : Nat) : Int) - 1) = (q : Int) from by simp only [wu]; omega]
      · refine Ev.step hj (Ev.step (fun k => ?_) (ih (r + v1) hK' (by omega)))
        simp only [bits_Div64.j1]; rw [if_pos trivial, if_neg (by simp only [wu]; omega)]; rw [show IntKind.u64.wrap (((q + 1 : Nat) : Int) - 1) = (q : Int) from by simp only [wu]; omega]; rw [show IntKind.u64.wrap ((r : Int) + (v1 : Int)) = ((r + v1 : Nat) : Int) from by simp only [wu]; omega]
    · have hn : (q + 1) * v0 ≤ 4294967296 * r + d1 := by omega
      have hd := hK.done hn; rw [← hV] at hd; refine Ev.step (f := fun k => bits_Div64.j1 k V s v1 v0 u d1 d0 (q + 1 : Nat) r false) (fun k => ?_) (Ev.step (fun k => ?_) (hend (q + 1) r hK hd))
      · simp only [bits_Div64.l0]
        rw [if_neg (by omega)]
        congr 1
        rw [show ((q + 1 : Nat) : Int) * (v0 : Int) = (((q + 1) * v0 : Nat) : Int) from (Int.natCast_mul _ _).symm]; (generalize (q + 1) * v0 = P at *); simp only [wu, decide_eq_false_iff_not]; omega
      · simp only [bits_Div64.j1]
        rw [if_neg (by decide)]

theorem bitLen_two (y : Nat) (h0 : 0 < y) (h : y < 18446744073709551616) : 2 ^ (Lib.bitLen y - 1) ≤ y ∧ y < 2 ^ Lib.bitLen y ∧ 1 ≤ Lib.bitLen y ∧ Lib.bitLen y ≤ 64 := by
  have main : ∀ (f x : Nat), 0 < x → x < 2 ^ f → 2 ^ (Lib.bitLenAux f x - 1) ≤ x ∧ x < 2 ^ Lib.bitLenAux f x ∧ 1 ≤ Lib.bitLenAux f x ∧ Lib.bitLenAux f x ≤ f := by
    intro f
    induction f with
    | zero => intro x h0 h; simp at h; omega
    | succ f ih =>
      intro x h0 h; simp only [Lib.bitLenAux]; rw [if_neg (by omega)]
      by_cases hx : x / 2 = 0
      · rw [hx]
        (have : Lib.bitLenAux f 0 = 0 := by cases f <;> simp [Lib.bitLenAux]); rw [this]; (have : x = 1 := by omega); subst this; exact ⟨by decide, by decide, by omega, by omega⟩
      · obtain ⟨a, b, c, d⟩ := ih (x / 2) (by omega) (by rw [Nat.pow_succ] at h; omega)
        refine ⟨?_, ?_, by omega, by omega⟩
        · obtain ⟨n, hn⟩ : ∃ n, Lib.bitLenAux f (x / 2) = n + 1 := ⟨_, (Nat.sub_add_cancel c).symm⟩
          rw [hn] at a ⊢; rw [show 1 + (n + 1) - 1 = n + 1 from by omega, Nat.pow_succ]; rw [Nat.add_sub_cancel] at a; omega
        · rw [Nat.add_comm, Nat.pow_succ]; omega
  exact main 64 y h0 h
end Go.Proofs.YtbapkiclgkddcaaGreatDoor.Mth

/- math/bits.Div64 and Rem64, whole: quotient and remainder of a number of 128 bits, for a divisor greater than the upper half (Div64) and for each divisor that is not 0 (Rem64). -/
namespace Go.Proofs.YtbapkiclgkddcaaGreatDoor.Mth
open Go.RowKit Go.Proofs.YtbapkiclgkddcaaGreatDoor.G Go.Proofs.YtbapkiclgkddcaaGreatDoor.Given Go.Proofs.YtbapkiclgkddcaaGreatDoorW.PrintWords Go.Proofs.YtbapkiclgkddcaaGreatDoorW.PrintLast Go.Proofs.YtbapkiclgkddcaaGreatDoorW.PrintMore
set_option linter.unusedVariables false

theorem maskN (a : Nat) (ha : a < 18446744073709551616) : Go.bits .and .u64 (a : Int) 4294967295 = ((a % 4294967296 : Nat) : Int) := by
  have h := bits_and_u64_nat a 4294967295 ha (by omega); have e : a &&& 4294967295 = a % 4294967296 := Nat.and_two_pow_sub_one_eq_mod a 32; rw [e] at h; exact h

theorem shl_nat (a s P : Nat) (hs : s ≤ 64) (hP : 2 ^ s = P) : shl .u64 (a : Int) (s : Int) = ((a * P % 18446744073709551616 : Nat) : Int) := by
  unfold shl; rw [show min (s : Int).toNat IntKind.u64.bits = s from by simp [IntKind.bits]; omega]; rw [wu]; (have : ((a : Int) * 2 ^ s) = ((a * P : Nat) : Int) := by rw [← hP]; simp); rw [this]; rfl
theorem shr_nat (a s P : Nat) (hs : s ≤ 64) (hP : 2 ^ s = P) : shr .u64 (a : Int) (s : Int) = ((a / P : Nat) : Int) := by
  unfold shr; rw [show min (s : Int).toNat IntKind.u64.bits = s from by simp [IntKind.bits]; omega]; (have : ((2 : Int) ^ s) = ((P : Nat) : Int) := by rw [← hP]; simp); rw [this]; rfl

theorem scale_split (hi lo P R : Nat) (hPR : R * P = 18446744073709551616) (hP : 0 < P) :
    (hi * 18446744073709551616 + lo) * P = (hi * P + lo / R) * 18446744073709551616 + lo * P % 18446744073709551616 := by
  (have h1 : lo * P / 18446744073709551616 = lo / R := by rw [← hPR]; exact Nat.mul_div_mul_right _ _ hP); have h2 := Nat.div_add_mod (lo * P) 18446744073709551616; rw [h1] at h2; (have h3 : (hi * 18446744073709551616 + lo) * P = hi * P * 18446744073709551616 + lo * P := by rw [Nat.add_mul, Nat.mul_right_comm]); rw [h3]; obtain ⟨X, hX⟩ : ∃ X, lo * P = X := ⟨_, rfl⟩; obtain ⟨Z, hZ⟩ : ∃ Z, lo / R = Z := ⟨_, rfl⟩; rw [hX, hZ] at h2; rw [hX, hZ]; omega

theorem or_add (a b P s : Nat) (hP : 2 ^ s = P) (hb : b < P) (h : a * P + b < 18446744073709551616) : Go.bits .or .u64 ((a * P : Nat) : Int) (b : Int) = ((a * P + b : Nat) : Int) := by
  rw [bits_or_u64_nat (a * P) b (by omega) (by omega)]
  have : a * P ||| b = a * P + b := by
    rw [← hP] at hb ⊢; rw [Nat.mul_comm]; exact (Nat.two_pow_add_eq_or_of_lt hb a).symm
  rw [this]

theorem div64_ev (hi lo y : Nat) (hy : y < 18446744073709551616) (hlo : lo < 18446744073709551616) (h : hi < y) :
    Ev (fun k => bits_Div64.f k hi lo y) (((hi * 18446744073709551616 + lo) / y : Nat), (((hi * 18446744073709551616 + lo) % y : Nat) : Int)) := by
  by_cases h0 : hi = 0
  · subst h0
    rw [Nat.zero_mul, Nat.zero_add]; refine Ev.congr (fun k => ?_) (Ev.now _); unfold bits_Div64.f; rw [if_neg (by omega), if_neg (by omega), if_pos (by rfl)]; have e4 : Int.tdiv (lo : Int) (y : Int) = ((lo / y : Nat) : Int) := rfl; have e5 : Int.tmod (lo : Int) (y : Int) = ((lo % y : Nat) : Int) := rfl; have hle : lo / y ≤ lo := Nat.div_le_self _ _; rw [e4, e5]; obtain ⟨Q, hQ⟩ : ∃ Q, lo / y = Q := ⟨_, rfl⟩; rw [hQ] at hle ⊢; rw [show IntKind.u64.wrap (Q : Int) = (Q : Int) from by simp only [wu]; omega]
  · obtain ⟨b1, b2, b3, b4⟩ := bitLen_two y (by omega) hy
    obtain ⟨n, hn⟩ : ∃ n, Lib.bitLen y = n := ⟨_, rfl⟩
    have hlz : bits_LeadingZeros64.f (y : Int) = some (((64 - n : Nat) : Int)) := by
      unfold bits_LeadingZeros64.f bits_Len64.f; rw [if_pos (by omega), Option.bind_some]; rw [show ((y : Int).toNat) = y from by omega, hn]; rw [hn] at b4; rw [show wrap64 (64 - (n : Int)) = ((64 - n : Nat) : Int) from by unfold wrap64; omega]
    rw [hn] at b1 b2 b3 b4; obtain ⟨s, hs⟩ : ∃ s, 64 - n = s := ⟨_, rfl⟩; rw [hs] at hlz; obtain ⟨P, hP⟩ : ∃ P, 2 ^ s = P := ⟨_, rfl⟩; obtain ⟨R, hR⟩ : ∃ R, 2 ^ (64 - s) = R := ⟨_, rfl⟩; have hP0 : 0 < P := by rw [← hP]; exact Nat.pow_pos (by decide)
    have hPR : R * P = 18446744073709551616 := by
      rw [← hP, ← hR, ← Nat.pow_add, show 64 - s + s = 64 from by omega]
    have hyP : y * P < 18446744073709551616 := by
      rw [← hPR]; refine Nat.mul_lt_mul_of_pos_right ?_ hP0; rw [← hR, show 64 - s = n from by omega]; exact b2
    have hyP2 : 9223372036854775808 ≤ y * P := by
      (have : 2 ^ (n - 1) * 2 ^ s ≤ y * P := by rw [hP]; exact Nat.mul_le_mul_right _ b1); rw [← Nat.pow_add, show n - 1 + s = 63 from by omega] at this; exact this
    have hhiP : (hi + 1) * P ≤ y * P := Nat.mul_le_mul_right _ h; rw [Nat.succ_mul] at hhiP
    have hloR : lo / R < P := by
      rw [Nat.div_lt_iff_lt_mul (by rw [← hR]; exact Nat.pow_pos (by decide)), Nat.mul_comm, hPR]; exact hlo
    have hsp := scale_split hi lo P R hPR hP0; obtain ⟨V, hV⟩ : ∃ V, y * P = V := ⟨_, rfl⟩; obtain ⟨u, hu⟩ : ∃ u, hi * P + lo / R = u := ⟨_, rfl⟩; obtain ⟨t, ht⟩ : ∃ t, lo * P % 18446744073709551616 = t := ⟨_, rfl⟩; (have htb : t < 18446744073709551616 := by rw [← ht]; exact Nat.mod_lt _ (by decide)); (have eV : shl .u64 (y : Int) (s : Int) = (V : Int) := by rw [shl_nat y s P (by omega) hP, hV, Nat.mod_eq_of_lt (by omega)]); (have eHi : shl .u64 (hi : Int) (s : Int) = ((hi * P : Nat) : Int) := by rw [shl_nat hi s P (by omega) hP, Nat.mod_eq_of_lt (by omega)]); (have eLo : shl .u64 (lo : Int) (s : Int) = (t : Int) := by rw [shl_nat lo s P (by omega) hP, ht]); (have ew : IntKind.u64.wrap (s : Int) = (s : Int) := by simp only [wu]; omega); (have ew2 : IntKind.u64.wrap (64 - (s : Int)) = ((64 - s : Nat) : Int) := by simp only [wu]; omega); have eR : shr .u64 (lo : Int) ((64 - s : Nat) : Int) = ((lo / R : Nat) : Int) := shr_nat lo (64 - s) R (by omega) hR
    have eU : Go.bits .or .u64 ((hi * P : Nat) : Int) ((lo / R : Nat) : Int) = (u : Int) := by
      rw [or_add hi (lo / R) P s hP hloR (by omega), hu]
    rw [hV] at hyP hyP2 hhiP; (have huV : u < V := by omega); rw [hu, ht] at hsp; (have hVs : V = (V / 4294967296) * 4294967296 + V % 4294967296 := by omega); (have hv1 : 2147483648 ≤ V / 4294967296 := by omega); have hK := Kn.start (v1 := V / 4294967296) (v0 := V % 4294967296) (u := u) (d := t / 4294967296) hv1 (by omega) (by omega) (by omega) (by omega); (have hr : u % (V / 4294967296) < 4294967296 := by have := Nat.mod_lt u (show 0 < V / 4294967296 by omega); omega); have hev := l0_ev (V := V) (s := s) (d1 := t / 4294967296) (d0 := t % 4294967296) hVs (by omega) hv1 (by omega) (by omega) (by omega) (by omega) huV _ _ hK hr; rw [show t / 4294967296 * 4294967296 + t % 4294967296 = t from by omega, ← hsp] at hev; obtain ⟨r1, r2⟩ := unscale (N := hi * 18446744073709551616 + lo) (y := y) (s := s) (q := (hi * 18446744073709551616 + lo) * P / V) (r := (hi * 18446744073709551616 + lo) * P % V) (by rw [hP, hV]) (by rw [hP, hV]); rw [r1, r2] at hev; refine Ev.congr (fun k => ?_) hev; unfold bits_Div64.f; rw [if_neg (by omega), if_neg (by omega), if_neg (by omega), hlz, Option.bind_some]; rw [ew, if_pos (by omega), ew2, if_pos (by omega), eV, if_neg (by omega), eHi, eLo, eR, eU, maskN V (by omega), maskN t (by omega)]; (have e4 : ((V : Int) / 4294967296) = ((V / 4294967296 : Nat) : Int) := by omega); (have e5 : ((t : Int) / 4294967296) = ((t / 4294967296 : Nat) : Int) := by omega); rw [e4, e5]; obtain ⟨v1, hv1e⟩ : ∃ v1, V / 4294967296 = v1 := ⟨_, rfl⟩; rw [hv1e] at hK hr hv1 ⊢; have e6 : Int.tdiv (u : Int) (v1 : Int) = ((u / v1 : Nat) : Int) := rfl; rw [e6]; have hq := hK.le; have hdm := Nat.div_add_mod u v1; obtain ⟨Q, hQ⟩ : ∃ Q, u / v1 = Q := ⟨_, rfl⟩; rw [hQ] at hq hdm ⊢; rw [show IntKind.u64.wrap (Q : Int) = (Q : Int) from by simp only [wu]; omega]
    rw [show IntKind.u64.wrap ((u : Int) - IntKind.u64.wrap ((Q : Int) * (v1 : Int))) = ((u % v1 : Nat) : Int) from by
      rw [show (Q : Int) * (v1 : Int) = ((v1 * Q : Nat) : Int) from by rw [Nat.mul_comm]; exact (Int.natCast_mul _ _).symm]; obtain ⟨T, hT⟩ : ∃ T, v1 * Q = T := ⟨_, rfl⟩; obtain ⟨M, hM⟩ : ∃ M, u % v1 = M := ⟨_, rfl⟩; rw [hT, hM] at hdm; rw [hT, hM]; have hM2 : M ≤ u := by rw [← hM]; exact Nat.mod_le _ _
      simp only [wu]; omega]

theorem rem64_ev (hi lo y : Nat) (hy : y < 18446744073709551616) (hlo : lo < 18446744073709551616) (h : 0 < y) :
    Ev (fun k => bits_Rem64.f k hi lo y) (((hi * 18446744073709551616 + lo) % y : Nat) : Int) := by
  have hd := div64_ev (hi % y) lo y hy hlo (Nat.mod_lt _ h)
  have e : (hi % y * 18446744073709551616 + lo) % y = (hi * 18446744073709551616 + lo) % y := by
    rw [Nat.add_mod, Nat.mul_mod, Nat.mod_mod, ← Nat.mul_mod, ← Nat.add_mod]
  rw [e] at hd; refine Ev.congr (fun k => ?_) (Ev.bind (f := fun _ b => some b.2) hd (Ev.now _)); unfold bits_Rem64.f; rw [if_neg (by omega)]; rfl
end Go.Proofs.YtbapkiclgkddcaaGreatDoor.Mth

/- The reference's arithmetic on numbers of 128 bits, as the printed functions compute it: doubling, sum, difference, comparison, long division, greatest common divisor: for all numbers below 2^128 (a divisor that is not 0). -/
namespace Go.Proofs.YtbapkiclgkddcaaGreatDoor.Mth
open Go.RowKit Go.Proofs.YtbapkiclgkddcaaGreatDoor.G Go.Proofs.YtbapkiclgkddcaaGreatDoor.Given Go.Proofs.YtbapkiclgkddcaaGreatDoorW.PrintWords Go.Proofs.YtbapkiclgkddcaaGreatDoorW.PrintLast Go.Proofs.YtbapkiclgkddcaaGreatDoorW.PrintMore
set_option linter.unusedVariables false

/-- the upper and the lower half of a number -/
def hi (n : Nat) : Int := ((n / 18446744073709551616 : Nat) : Int)
def lo (n : Nat) : Int := ((n % 18446744073709551616 : Nat) : Int)

theorem gcd_ev : ∀ b a : Nat, Ev (fun k => ratio_gcd.f k a b) ((Nat.gcd a b : Nat) : Int) := by
  intro b
  induction b using Nat.strongRecOn with
  | _ b ih =>
    intro a
    by_cases h : b = 0
    · subst h
      refine ev_some (fun k => ?_); simp only [ratio_gcd.f, ratio_gcd.l0]; rw [if_pos (by rfl), Nat.gcd_zero_right]
    · have hlt : a % b < b := Nat.mod_lt _ (by omega)
      have := ih (a % b) hlt b; rw [show Nat.gcd a b = Nat.gcd b (a % b) from by rw [Nat.gcd_comm a b, Nat.gcd_rec b a, Nat.gcd_comm]]; refine Ev.step (fun k => ?_) this; simp only [ratio_gcd.f, ratio_gcd.l0]; rw [if_neg (by omega)]; rfl

theorem twice_eq (n : Nat) (h : n < 340282366920938463463374607431768211456) : r1_Twice.f (hi n) (lo n) = some (hi (2 * n % 340282366920938463463374607431768211456), lo (2 * n % 340282366920938463463374607431768211456)) := by
  unfold r1_Twice.f; obtain ⟨H, hH⟩ : ∃ H, n / 18446744073709551616 = H := ⟨_, rfl⟩; obtain ⟨L, hL⟩ : ∃ L, n % 18446744073709551616 = L := ⟨_, rfl⟩
  have e1 : IntKind.u64.wrap (hi n * 2) = ((H % 9223372036854775808 * 2 : Nat) : Int) := by
    unfold hi; rw [hH, wu]; omega
  have e2 : lo n / 9223372036854775808 = ((L / 9223372036854775808 : Nat) : Int) := by unfold lo; rw [hL]; omega
  have e3 : IntKind.u64.wrap (lo n * 2) = lo (2 * n % 340282366920938463463374607431768211456) := by
    unfold lo; rw [wu]; omega
  rw [e1, e2, e3, or_add (H % 9223372036854775808) (L / 9223372036854775808) 2 1 rfl (by omega) (by omega)]
  have e4 : ((H % 9223372036854775808 * 2 + L / 9223372036854775808 : Nat) : Int) = hi (2 * n % 340282366920938463463374607431768211456) := by
    unfold hi; omega
  rw [e4]

theorem minus_eq (a b : Nat) (ha : a < 340282366920938463463374607431768211456) (hb : b < 340282366920938463463374607431768211456) :
    r1_Minus.f (hi a) (lo a) (hi b) (lo b) = some (hi ((a + 340282366920938463463374607431768211456 - b) % 340282366920938463463374607431768211456), lo ((a + 340282366920938463463374607431768211456 - b) % 340282366920938463463374607431768211456)) := by
  unfold r1_Minus.f bits_Sub64.f; rw [if_pos (by unfold lo; omega), Option.bind_some]; dsimp only; rw [if_pos (by unfold hi; split <;> omega), Option.bind_some]; simp only [Option.some.injEq, Prod.mk.injEq]; unfold hi lo; constructor
  · split <;> omega
  · omega

/-- the sum of two wide numbers, word by word -/
def r1_Plus.f (a b c d : Int) : Option (Int × Int) := (bits_Add64.f b d 0).bind fun x => (bits_Add64.f a c x.2).bind fun y => some (y.1, x.1)
theorem plus_eq (a b : Nat) (ha : a < 340282366920938463463374607431768211456) (hb : b < 340282366920938463463374607431768211456) :
    r1_Plus.f (hi a) (lo a) (hi b) (lo b) = some (hi ((a + b) % 340282366920938463463374607431768211456), lo ((a + b) % 340282366920938463463374607431768211456)) := by
  unfold r1_Plus.f bits_Add64.f; rw [if_pos (by unfold lo; omega), Option.bind_some]; dsimp only; rw [if_pos (by unfold hi lo; omega), Option.bind_some]; simp only [Option.some.injEq, Prod.mk.injEq]; unfold hi lo; constructor <;> omega
theorem hl_eq {a b : Nat} : hi a = hi b → lo a = lo b → a = b := by unfold hi lo; omega
theorem order_ev (a b : Nat) : Ev (fun k => r1_Order.f k (hi a) (lo a) (hi b) (lo b)) (if a < b then (-1 : Int) else if a = b then 0 else 1) := by
  have key : Ev (fun k => r1_Order.j0 k (decide (a < b)) (hi a) (lo a) (hi b) (lo b)) (if a < b then (-1 : Int) else if a = b then 0 else 1) := by
    refine ev_some (fun k => ?_); simp only [r1_Order.j0, decide_eq_true_eq]
    by_cases h : a < b
    · rw [if_pos h, if_pos h]
    · rw [if_neg h, if_neg h]
      by_cases e : a = b
      · subst e; simp
      · rw [if_neg e, if_neg]
        intro hc; simp only [Bool.and_eq_true, beq_iff_eq] at hc; exact e (hl_eq hc.1 hc.2)
  refine Ev.congr (fun k => ?_) key; unfold r1_Order.f
  by_cases h1 : hi a < hi b
  · rw [if_pos h1]
    congr 1
    symm; rw [decide_eq_true_eq]; unfold hi at h1; omega
  · rw [if_neg h1]
    by_cases h2 : hi a = hi b
    · rw [if_pos h2]
      congr 1
      rw [decide_eq_decide]; unfold hi at h2; unfold lo; omega
    · rw [if_neg h2]
      congr 1
      symm; rw [decide_eq_false_iff_not]; unfold hi at h1 h2; omega

theorem bit_lo (N i : Nat) (hi' : i < 64) : N % 18446744073709551616 / 2 ^ i % 2 = N / 2 ^ i % 2 := by
  have h := Nat.testBit_mod_two_pow N 64 i; rw [show decide (i < 64) = true from decide_eq_true hi', Bool.true_and] at h; rw [Nat.testBit_eq_decide_div_mod_eq, Nat.testBit_eq_decide_div_mod_eq, decide_eq_decide] at h
  change (N % 18446744073709551616 / 2 ^ i % 2 = 1 ↔ _) at h
  obtain ⟨X, hX⟩ : ∃ X, N % 18446744073709551616 / 2 ^ i = X := ⟨_, rfl⟩; obtain ⟨Y, hY⟩ : ∃ Y, N / 2 ^ i = Y := ⟨_, rfl⟩; rw [hX, hY] at h ⊢; omega
theorem bit_hi (N i : Nat) (hi' : 64 ≤ i) : N / 18446744073709551616 / 2 ^ (i - 64) = N / 2 ^ i := by
  rw [Nat.div_div_eq_div_mul]
  have : 18446744073709551616 * 2 ^ (i - 64) = 2 ^ i := by
    rw [show (18446744073709551616 : Nat) = 2 ^ 64 from rfl, ← Nat.pow_add, show 64 + (i - 64) = i from by omega]
  rw [this]
theorem and_one (a : Nat) (ha : a < 18446744073709551616) : Go.bits .and .u64 (a : Int) 1 = ((a % 2 : Nat) : Int) := by
  have h := bits_and_u64_nat a 1 ha (by omega); rw [Nat.and_one_is_mod] at h; exact h

/-- One round, from the doubled rest with its new bit. -/
theorem dstep_ev (N D Q R b i : Nat) (hN : N < 340282366920938463463374607431768211456) (hD : D < 340282366920938463463374607431768211456) (hD0 : 0 < D) (hQ : Q < 170141183460469231731687303715884105728) (hR : R < D) (hb : b ≤ 1) {r : Int × Int × Int × Int}
    (h : Ev (fun k => r1_Divide.l0 k ((i : Int) - 1) (hi N) (lo N) (hi D) (lo D) (hi (if D ≤ 2 * R + b then 2 * Q + 1 else 2 * Q)) (lo (if D ≤ 2 * R + b then 2 * Q + 1 else 2 * Q)) (hi (if D ≤ 2 * R + b then 2 * R + b - D else 2 * R + b)) (lo (if D ≤ 2 * R + b then 2 * R + b - D else 2 * R + b))) r) (hi' : i < 128) :
    Ev (fun k => r1_Divide.j2 k (i : Int) (b : Int) (hi N) (lo N) (hi D) (lo D) (hi Q) (lo Q) (hi R) (lo R)) r := by
  have t1 := twice_eq R (by omega); have t2 := twice_eq Q (by omega); obtain ⟨X, hX⟩ : ∃ X, 2 * R % 340282366920938463463374607431768211456 = X := ⟨_, rfl⟩; rw [hX] at t1; rw [show 2 * Q % 340282366920938463463374607431768211456 = 2 * Q from by omega] at t2
  have eo1 : Go.bits .or .u64 (lo X) (b : Int) = lo (X + b) := by
    have := or_add (X % 18446744073709551616 / 2) b 2 1 rfl (by omega) (by omega); rw [show X % 18446744073709551616 / 2 * 2 = X % 18446744073709551616 from by omega] at this; unfold lo; rw [this]; omega
  have eh1 : hi X = hi (X + b) := by unfold hi; omega
  have eo2 : Go.bits .or .u64 (lo (2 * Q)) 1 = lo (2 * Q + 1) := by
    have := or_add (2 * Q % 18446744073709551616 / 2) 1 2 1 rfl (by omega) (by omega); rw [show 2 * Q % 18446744073709551616 / 2 * 2 = 2 * Q % 18446744073709551616 from by omega] at this; unfold lo; exact this.trans (by omega)
  (have eh2 : hi (2 * Q) = hi (2 * Q + 1) := by unfold hi; omega); (have ei : wrap64 ((i : Int) - 1) = (i : Int) - 1 := by unfold wrap64; omega); have hm := minus_eq (X + b) D (by omega) hD
  by_cases hov : 340282366920938463463374607431768211456 ≤ 2 * R
  · rw [if_pos (by omega), if_pos (by omega)] at h
    refine Ev.step (fun k => ?_) h; simp only [r1_Divide.j2]; rw [t1, t2, Option.bind_some, Option.bind_some]; dsimp only; rw [if_pos (by unfold hi; omega), eo1, eh1, hm, Option.bind_some, ei]; dsimp only; rw [eo2, eh2, show (X + b + 340282366920938463463374607431768211456 - D) % 340282366920938463463374607431768211456 = 2 * R + b - D from by omega]
  · have ho := order_ev (X + b) D
    by_cases hge : D ≤ 2 * R + b
    · rw [if_pos hge, if_pos hge] at h
      rw [if_neg (show ¬ X + b < D by omega)] at ho; obtain ⟨c, hc⟩ : ∃ c : Int, (if X + b = D then (0 : Int) else 1) = c := ⟨_, rfl⟩; rw [hc] at ho; (have hc0 : c ≥ 0 := by rw [← hc]; split <;> decide); (have hsub : (X + b + 340282366920938463463374607431768211456 - D) % 340282366920938463463374607431768211456 = 2 * R + b - D := by omega); rw [← hsub] at h; refine Ev.step (f := fun k => (r1_Order.f k (hi (X + b)) (lo (X + b)) (hi D) (lo D)).bind fun t => if t ≥ 0 then r1_Divide.l0 k ((i : Int) - 1) (hi N) (lo N) (hi D) (lo D) (hi (2 * Q + 1)) (lo (2 * Q + 1)) (hi ((X + b + 340282366920938463463374607431768211456 - D) % 340282366920938463463374607431768211456)) (lo ((X + b + 340282366920938463463374607431768211456 - D) % 340282366920938463463374607431768211456)) else r1_Divide.l0 k ((i : Int) - 1) (hi N) (lo N) (hi D) (lo D) (hi (2 * Q)) (lo (2 * Q)) (hi (X + b)) (lo (X + b))) (fun k => ?_) (Ev.bind ho (Ev.congr (fun k => if_pos hc0) h)); simp only [r1_Divide.j2]; rw [t1, t2, Option.bind_some, Option.bind_some]; dsimp only; rw [if_neg (by unfold hi; omega), eo1, eh1, hm, ei, eo2, ← eh2]; rfl
    · rw [if_neg hge, if_neg hge] at h
      (have hXR : X = 2 * R := by omega); rw [← hXR] at h; rw [if_pos (show X + b < D by omega)] at ho; refine Ev.step (f := fun k => (r1_Order.f k (hi (X + b)) (lo (X + b)) (hi D) (lo D)).bind fun t => if t ≥ 0 then r1_Divide.l0 k ((i : Int) - 1) (hi N) (lo N) (hi D) (lo D) (hi (2 * Q + 1)) (lo (2 * Q + 1)) (hi ((X + b + 340282366920938463463374607431768211456 - D) % 340282366920938463463374607431768211456)) (lo ((X + b + 340282366920938463463374607431768211456 - D) % 340282366920938463463374607431768211456)) else r1_Divide.l0 k ((i : Int) - 1) (hi N) (lo N) (hi D) (lo D) (hi (2 * Q)) (lo (2 * Q)) (hi (X + b)) (lo (X + b))) (fun k => ?_) (Ev.bind ho (Ev.congr (fun k => if_neg (by decide)) h)); simp only [r1_Divide.j2]; rw [t1, t2, Option.bind_some, Option.bind_some]; dsimp only; rw [if_neg (by unfold hi; omega), eo1, eh1, hm, ei, eo2, ← eh2]; rfl

theorem div_step (M D b : Nat) (hD0 : 0 < D) (hb : b ≤ 1) : (2 * M + b) / D = (if D ≤ 2 * (M % D) + b then 2 * (M / D) + 1 else 2 * (M / D)) ∧ (2 * M + b) % D = (if D ≤ 2 * (M % D) + b then 2 * (M % D) + b - D else 2 * (M % D) + b) := by
  have e := Nat.div_add_mod M D; have hr := Nat.mod_lt M hD0; obtain ⟨Q, hQ⟩ : ∃ Q, M / D = Q := ⟨_, rfl⟩; obtain ⟨R, hR⟩ : ∃ R, M % D = R := ⟨_, rfl⟩; rw [hQ, hR] at e; rw [hR] at hr; rw [hQ, hR]
  by_cases h : D ≤ 2 * R + b
  · rw [if_pos h, if_pos h]
    (have : 2 * M + b = D * (2 * Q + 1) + (2 * R + b - D) := by rw [Nat.mul_add, Nat.mul_left_comm]; omega); rw [this, Nat.mul_add_div hD0, Nat.mul_add_mod, Nat.div_eq_of_lt (by omega), Nat.mod_eq_of_lt (by omega)]; exact ⟨rfl, rfl⟩
  · rw [if_neg h, if_neg h]
    (have : 2 * M + b = D * (2 * Q) + (2 * R + b) := by rw [Nat.mul_left_comm]; omega); rw [this, Nat.mul_add_div hD0, Nat.mul_add_mod, Nat.div_eq_of_lt (by omega), Nat.mod_eq_of_lt (by omega)]; exact ⟨rfl, rfl⟩

theorem dloop_ev (N D : Nat) (hN : N < 340282366920938463463374607431768211456) (hD : D < 340282366920938463463374607431768211456) (hD0 : 0 < D) : ∀ i : Nat, i ≤ 128 →
    Ev (fun k => r1_Divide.l0 k ((i : Int) - 1) (hi N) (lo N) (hi D) (lo D) (hi (N / 2 ^ i / D)) (lo (N / 2 ^ i / D)) (hi (N / 2 ^ i % D)) (lo (N / 2 ^ i % D))) (hi (N / D), lo (N / D), hi (N % D), lo (N % D)) := by
  intro i
  induction i with
  | zero =>
    intro _; rw [Nat.pow_zero, Nat.div_one]; refine ev_some (fun k => ?_); simp only [r1_Divide.l0]; rw [if_neg (by decide)]
  | succ i ih =>
    intro hi1; have h := ih (by omega); obtain ⟨b, hb⟩ : ∃ b, N / 2 ^ i % 2 = b := ⟨_, rfl⟩; obtain ⟨M, hM⟩ : ∃ M, N / 2 ^ (i + 1) = M := ⟨_, rfl⟩
    have hNM : N / 2 ^ i = 2 * M + b := by
      rw [← hM, ← hb, Nat.pow_succ, ← Nat.div_div_eq_div_mul]; omega
    have hb1 : b ≤ 1 := by omega
    have hMN : M < 170141183460469231731687303715884105728 := by
      rw [← hM, Nat.pow_succ, ← Nat.div_div_eq_div_mul]; have := Nat.div_le_self N (2 ^ i); omega
    obtain ⟨d1, d2⟩ := div_step M D b hD0 hb1; rw [hNM, d1, d2] at h; have hQM : M / D ≤ M := Nat.div_le_self _ _; rw [hM]; have hj := dstep_ev N D (M / D) (M % D) b i hN hD hD0 (by omega) (Nat.mod_lt _ hD0) hb1 h (by omega); refine Ev.step (fun k => ?_) hj; rw [show (((i + 1 : Nat) : Int) - 1) = (i : Int) from by omega]; simp only [r1_Divide.l0]
    have ew : IntKind.u64.wrap (Int.tmod (i : Int) 64) = ((i % 64 : Nat) : Int) := by
      have : Int.tmod (i : Int) 64 = ((i % 64 : Nat) : Int) := rfl; rw [this, wu]; omega
    rw [if_pos (by omega), ew, if_pos (by omega)]
    by_cases h64 : 64 ≤ i
    · rw [if_pos (by omega)]
      (have ew2 : IntKind.u64.wrap (wrap64 ((i : Int) - 64)) = ((i - 64 : Nat) : Int) := by unfold wrap64; rw [wu]; omega); rw [ew2, if_pos (by omega)]
      have e1 : shr .u64 (hi N) ((i - 64 : Nat) : Int) = ((N / 2 ^ i : Nat) : Int) := by
        unfold hi; rw [shr_nat _ (i - 64) _ (by omega) rfl, bit_hi N i h64]
      have e2 := and_one (N / 2 ^ i) (by
        rw [← bit_hi N i h64]; have := Nat.div_le_self (N / 18446744073709551616) (2 ^ (i - 64))
        omega)
      rw [e1, e2, hb]
    · rw [if_neg (by omega)]
      have e1 : shr .u64 (lo N) ((i % 64 : Nat) : Int) = ((N % 18446744073709551616 / 2 ^ i : Nat) : Int) := by
        rw [show i % 64 = i from by omega]; unfold lo; rw [shr_nat _ i _ (by omega) rfl]
      have e2 := and_one (N % 18446744073709551616 / 2 ^ i) (by
        have := Nat.div_le_self (N % 18446744073709551616) (2 ^ i)
        omega)
      rw [e1, e2, bit_lo N i (by omega), hb]

theorem divide_ev (N D : Nat) (hN : N < 340282366920938463463374607431768211456) (hD : D < 340282366920938463463374607431768211456) (hD0 : 0 < D) :
    Ev (fun k => r1_Divide.f k (hi N) (lo N) (hi D) (lo D)) (hi (N / D), lo (N / D), hi (N % D), lo (N % D)) := by
  have hlong : Ev (fun k => r1_Divide.j0 k false (hi N) (lo N) (hi D) (lo D)) (hi (N / D), lo (N / D), hi (N % D), lo (N % D)) := by
    have h := dloop_ev N D hN hD hD0 128 (Nat.le_refl _); have e0 : N / 2 ^ 128 = 0 := Nat.div_eq_of_lt hN; rw [e0, Nat.zero_div, Nat.zero_mod] at h; refine Ev.step (fun k => ?_) h; simp only [r1_Divide.j0]; rw [if_neg (by decide)]; rfl
  by_cases h1 : N < 18446744073709551616
  · by_cases h2 : D < 18446744073709551616
    · refine Ev.congr (f := fun k => r1_Divide.j0 k true (hi N) (lo N) (hi D) (lo D)) (fun k => ?_) (ev_some (fun k => ?_))
      · unfold r1_Divide.f
        rw [if_pos (by unfold hi; omega)]
        congr 1
        rw [beq_iff_eq]; unfold hi; omega
      · simp only [r1_Divide.j0]
        rw [if_pos trivial, if_neg (by unfold lo; omega)]; (have el1 : lo N = (N : Int) := by unfold lo; omega); (have el2 : lo D = (D : Int) := by unfold lo; omega); have e3 : Int.tdiv (N : Int) (D : Int) = ((N / D : Nat) : Int) := rfl; have e4 : Int.tmod (N : Int) (D : Int) = ((N % D : Nat) : Int) := rfl; have l1 := Nat.div_le_self N D; have l2 := Nat.mod_lt N hD0; rw [el1, el2, e3, e4]; obtain ⟨Q, hQ⟩ : ∃ Q, N / D = Q := ⟨_, rfl⟩; obtain ⟨R, hR⟩ : ∃ R, N % D = R := ⟨_, rfl⟩; rw [hQ] at l1; rw [hR] at l2; rw [hQ, hR, wu]; simp only [Option.some.injEq, Prod.mk.injEq]; unfold hi lo; omega
    · refine Ev.congr (fun k => ?_) hlong
      unfold r1_Divide.f; rw [if_pos (by unfold hi; omega)]
      congr 1
      rw [beq_eq_false_iff_ne]; unfold hi; omega
  · refine Ev.congr (fun k => ?_) hlong
    unfold r1_Divide.f; rw [if_neg (by unfold hi; omega)]

theorem divisor_ev : ∀ b a : Nat, a < 340282366920938463463374607431768211456 → b < 340282366920938463463374607431768211456 →
    Ev (fun k => r1_Divisor.f k (hi a) (lo a) (hi b) (lo b)) (hi (Nat.gcd a b), lo (Nat.gcd a b)) := by
  intro b
  induction b using Nat.strongRecOn with
  | _ b ih =>
    intro a ha hb
    by_cases h : b = 0
    · subst h
      refine ev_some (fun k => ?_); simp only [r1_Divisor.f, r1_Divisor.l0]; rw [Nat.gcd_zero_right, if_neg (by decide)]
    · have hlt : a % b < b := Nat.mod_lt _ (by omega)
      have h2 := ih (a % b) hlt b hb (by omega); rw [show Nat.gcd a b = Nat.gcd b (a % b) from by rw [Nat.gcd_comm a b, Nat.gcd_rec b a, Nat.gcd_comm]]; refine Ev.step (fun k => ?_) (Ev.bind (f := fun k (t : Int × Int × Int × Int) => r1_Divisor.l0 k (hi b) (lo b) t.2.2.1 t.2.2.2) (divide_ev a b ha hb (by omega)) h2); simp only [r1_Divisor.f, r1_Divisor.l0]; rw [if_pos]; have : ¬ (hi b = 0 ∧ lo b = 0) := by unfold hi lo; omega
      by_cases hh : hi b = 0
      · have hl : ¬ lo b = 0 := fun hl => this ⟨hh, hl⟩
        simp [hl]
      · simp [hh]
end Go.Proofs.YtbapkiclgkddcaaGreatDoor.Mth

/- Reducing a fraction to lowest terms: the program's and the reference's functions come to one plain function ('red'); New and Valid of both sides are equal, for all numbers. -/
namespace Go.Proofs.YtbapkiclgkddcaaGreatDoor.Mth
open Go.RowKit Go.Proofs.YtbapkiclgkddcaaGreatDoor.G Go.Proofs.YtbapkiclgkddcaaGreatDoor.Given Go.Proofs.YtbapkiclgkddcaaGreatDoorW.PrintWords Go.Proofs.YtbapkiclgkddcaaGreatDoorW.PrintLast Go.Proofs.YtbapkiclgkddcaaGreatDoorW.PrintMore
set_option linter.unusedVariables false

/-- an int of 64 bits -/
def I64 (a : Int) : Prop := -9223372036854775808 ≤ a ∧ a ≤ 9223372036854775807
theorem I64.of {a : Int} (h : (Lit.int .i64 a).wf = true) : I64 a := by
  simp only [Lit.wf, IntKind.min, IntKind.max, IntKind.signed, IntKind.bits, Bool.and_eq_true, decide_eq_true_eq, if_true] at h; unfold I64; omega

/-- The fraction n / d (d not 0) with a sign, in lowest terms, or the error. -/
def red (neg : Bool) (n d : Nat) : Int × Int × Int :=
  if n / Nat.gcd n d ≤ 1152921504606846976 ∧ d / Nat.gcd n d ≤ 1152921504606846976 then
    ((if neg then -((n / Nat.gcd n d : Nat) : Int) else ((n / Nat.gcd n d : Nat) : Int)), ((d / Nat.gcd n d : Nat) : Int), 0)
  else (0, 0, 6)

theorem reduce_ev (neg : Bool) (n d : Nat) (hn : n < 340282366920938463463374607431768211456) (hd : d < 340282366920938463463374607431768211456) (hd0 : 0 < d) :
    Ev (fun k => r1_Reduce.f k neg (hi n) (lo n) (hi d) (lo d)) (red neg n d) := by
  have hg0 : 0 < Nat.gcd n d := Nat.gcd_pos_of_pos_right _ hd0; have hgd : Nat.gcd n d ≤ d := Nat.gcd_le_right _ hd0; refine Ev.congr (fun k => by unfold r1_Reduce.f; rfl) ?_; refine Ev.bind (divisor_ev d n hn hd) ?_; refine Ev.bind (divide_ev n (Nat.gcd n d) hn (by omega) hg0) ?_; refine Ev.bind (divide_ev d (Nat.gcd n d) hd (by omega) hg0) ?_; have hX := Nat.div_le_self n (Nat.gcd n d); have hY := Nat.div_le_self d (Nat.gcd n d); unfold red; obtain ⟨X, hXe⟩ : ∃ X, n / Nat.gcd n d = X := ⟨_, rfl⟩; obtain ⟨Y, hYe⟩ : ∃ Y, d / Nat.gcd n d = Y := ⟨_, rfl⟩; rw [hXe] at hX; rw [hYe] at hY; simp only [hXe, hYe]
  have key : Ev (fun k => r1_Reduce.j0 k neg (decide (¬ (X ≤ 1152921504606846976 ∧ Y ≤ 1152921504606846976))) (hi X) (lo X) (hi Y) (lo Y)) (if X ≤ 1152921504606846976 ∧ Y ≤ 1152921504606846976 then ((if neg then -(X : Int) else (X : Int)), (Y : Int), (0 : Int)) else (0, 0, 6)) := by
    refine ev_some (fun k => ?_); simp only [r1_Reduce.j0, decide_eq_true_eq]
    by_cases h : X ≤ 1152921504606846976 ∧ Y ≤ 1152921504606846976
    · rw [if_neg (by simpa using h), if_pos h]
      (have e1 : wrap64 (lo X) = (X : Int) := by unfold wrap64 lo; omega); (have e2 : wrap64 (lo Y) = (Y : Int) := by unfold wrap64 lo; omega); (have e3 : wrap64 (-(X : Int)) = -(X : Int) := by unfold wrap64; omega); rw [e1, e2, e3]
      cases neg <;> rfl
    · rw [if_pos (by simpa using h), if_neg h]
  refine Ev.congr (fun k => ?_) key
  by_cases h1 : hi X > 0
  · rw [if_pos h1]; congr 1; symm; rw [decide_eq_true_eq]; unfold hi at h1; omega
  · rw [if_neg h1]
    by_cases h2 : hi Y > 0
    · rw [if_pos h2]; congr 1; symm; rw [decide_eq_true_eq]; unfold hi at h2; omega
    · rw [if_neg h2]
      by_cases h3 : lo X > 1152921504606846976
      · rw [if_pos h3]; congr 1; symm; rw [decide_eq_true_eq]; unfold lo at h3; omega
      · rw [if_neg h3]; congr 1; rw [decide_eq_decide]; unfold hi at h1 h2; unfold lo at h3 ⊢; omega

theorem over_ev (neg : Bool) (n g : Nat) (hn : n < 340282366920938463463374607431768211456) (hg : g < 18446744073709551616) (hg0 : 0 < g) :
    Ev (fun k => ratio_wide_over.f k neg (hi n) (lo n) g) (neg, hi (n / g), lo (n / g)) := by
  have hd := div64_ev ((n / 18446744073709551616) % g) (n % 18446744073709551616) g hg (Nat.mod_lt _ (by decide)) (Nat.mod_lt _ hg0)
  have e0 : n / g = n / 18446744073709551616 / g * 18446744073709551616 + ((n / 18446744073709551616) % g * 18446744073709551616 + n % 18446744073709551616) / g := by
    have h1 := Nat.div_add_mod n 18446744073709551616; have h2 := Nat.div_add_mod (n / 18446744073709551616) g
    have h3 : n = g * (n / 18446744073709551616 / g * 18446744073709551616) + ((n / 18446744073709551616) % g * 18446744073709551616 + n % 18446744073709551616) := by
      rw [← Nat.mul_assoc]; obtain ⟨A, hA⟩ : ∃ A, g * (n / 18446744073709551616 / g) = A := ⟨_, rfl⟩; obtain ⟨B, hB⟩ : ∃ B, n / 18446744073709551616 % g = B := ⟨_, rfl⟩; rw [hA, hB] at h2 ⊢; omega
    conv => lhs; rw [h3]
    rw [Nat.mul_add_div hg0]
  have hlt : ((n / 18446744073709551616) % g * 18446744073709551616 + n % 18446744073709551616) / g < 18446744073709551616 := by
    rw [Nat.div_lt_iff_lt_mul hg0]; have h1 := Nat.mod_lt (n / 18446744073709551616) hg0; have h2 := Nat.mod_lt n (show 0 < 18446744073709551616 by decide); have h3 : (n / 18446744073709551616 % g + 1) * 18446744073709551616 ≤ g * 18446744073709551616 := Nat.mul_le_mul_right _ h1; rw [Nat.mul_comm 18446744073709551616 g]; omega
  have hq : n / 18446744073709551616 / g ≤ n / 18446744073709551616 := Nat.div_le_self _ _; obtain ⟨A, hA⟩ : ∃ A, n / 18446744073709551616 / g = A := ⟨_, rfl⟩; obtain ⟨B, hB⟩ : ∃ B, ((n / 18446744073709551616) % g * 18446744073709551616 + n % 18446744073709551616) / g = B := ⟨_, rfl⟩; rw [hA, hB] at e0; rw [hB] at hlt hd; rw [hA] at hq; (have a1 : hi (n / g) = (A : Int) := by unfold hi; omega); (have a2 : lo (n / g) = (B : Int) := by unfold lo; omega); rw [a1, a2]; refine Ev.congr (f := fun k => (bits_Div64.f k ((n / 18446744073709551616 % g : Nat) : Int) ((n % 18446744073709551616 : Nat) : Int) (g : Int)).bind fun b => some (neg, (A : Int), b.1)) (fun k => ?_) ?_
  · unfold ratio_wide_over.f hi lo
    rw [if_neg (by omega)]; have e4 : Int.tmod (((n / 18446744073709551616 : Nat) : Int)) (g : Int) = ((n / 18446744073709551616 % g : Nat) : Int) := rfl; have e5 : Int.tdiv (((n / 18446744073709551616 : Nat) : Int)) (g : Int) = ((n / 18446744073709551616 / g : Nat) : Int) := rfl; rw [e4, e5, hA]; rw [show IntKind.u64.wrap (A : Int) = (A : Int) from by rw [wu]; omega]
  · obtain ⟨K, hK⟩ := hd
    refine ⟨K, fun k hk => ?_⟩; have hk2 := hK k hk; dsimp only at hk2 ⊢; rw [hk2]; rfl

theorem lowest_ev (neg : Bool) (n d : Nat) (hn : n < 340282366920938463463374607431768211456) (hd : d < 18446744073709551616) (hd0 : 0 < d) :
    Ev (fun k => ratio_lowest.f k neg (hi n) (lo n) d) (red neg n d) := by
  have hg0 : 0 < Nat.gcd n d := Nat.gcd_pos_of_pos_right _ hd0; have hgd : Nat.gcd n d ≤ d := Nat.gcd_le_right _ hd0; (have hrem : (n / 18446744073709551616) * 18446744073709551616 + n % 18446744073709551616 = n := by omega); refine Ev.congr (fun k => by unfold ratio_lowest.f; rfl) ?_; have r1 := rem64_ev (n / 18446744073709551616) (n % 18446744073709551616) d hd (Nat.mod_lt _ (by decide)) hd0; rw [hrem] at r1; refine Ev.bind r1 ?_; have r2 := gcd_ev (n % d) d; rw [show Nat.gcd d (n % d) = Nat.gcd n d from by rw [Nat.gcd_comm n d, Nat.gcd_rec d n, Nat.gcd_comm]] at r2; refine Ev.bind r2 ?_; refine Ev.bind (over_ev neg n (Nat.gcd n d) hn (by omega) hg0) ?_; have hX := Nat.div_le_self n (Nat.gcd n d); have hY := Nat.div_le_self d (Nat.gcd n d); have e5 : Int.tdiv (d : Int) ((Nat.gcd n d : Nat) : Int) = ((d / Nat.gcd n d : Nat) : Int) := rfl; unfold red; rw [e5]; obtain ⟨X, hXe⟩ : ∃ X, n / Nat.gcd n d = X := ⟨_, rfl⟩; obtain ⟨Y, hYe⟩ : ∃ Y, d / Nat.gcd n d = Y := ⟨_, rfl⟩; rw [hXe] at hX; rw [hYe] at hY; simp only [hXe, hYe]; rw [show IntKind.u64.wrap (Y : Int) = (Y : Int) from by rw [wu]; omega]
  have key : Ev (fun k => ratio_lowest.j0 k Y (decide (¬ (X ≤ 1152921504606846976 ∧ Y ≤ 1152921504606846976))) neg (hi X) (lo X)) (if X ≤ 1152921504606846976 ∧ Y ≤ 1152921504606846976 then ((if neg then -(X : Int) else (X : Int)), (Y : Int), (0 : Int)) else (0, 0, 6)) := by
    refine ev_some (fun k => ?_); simp only [ratio_lowest.j0, decide_eq_true_eq]
    by_cases h : X ≤ 1152921504606846976 ∧ Y ≤ 1152921504606846976
    · rw [if_neg (by simpa using h), if_pos h]
      (have e1 : wrap64 (lo X) = (X : Int) := by unfold wrap64 lo; omega); (have e2 : wrap64 (Y : Int) = (Y : Int) := by unfold wrap64; omega); (have e3 : wrap64 (-(X : Int)) = -(X : Int) := by unfold wrap64; omega); rw [e1, e2, e3]
      cases neg <;> rfl
    · rw [if_pos (by simpa using h), if_neg h]
  refine Ev.congr (fun k => ?_) key; rw [if_neg (by omega)]
  by_cases h1 : hi X = 0
  · rw [if_pos h1]
    by_cases h3 : lo X > 1152921504606846976
    · rw [if_pos h3]; congr 1; symm; rw [decide_eq_true_eq]; unfold lo at h3; omega
    · rw [if_neg h3]; congr 1; rw [decide_eq_decide]; unfold hi at h1; unfold lo at h3; omega
  · rw [if_neg h1]; congr 1; symm; rw [decide_eq_true_eq]; unfold hi at h1; omega

theorem abs_eq {a : Int} (h : I64 a) : ratio_abs.f a = some (a.natAbs : Int) := by
  unfold ratio_abs.f I64 at *
  split <;> simp only [Option.some.injEq, wu] <;> (try unfold wrap64) <;> omega
theorem size_eq {a : Int} (h : I64 a) : r1_Size.f a = some (a.natAbs : Int) := by
  unfold r1_Size.f I64 at *
  split <;> simp only [Option.some.injEq, wu] <;> (try unfold wrap64) <;> omega

/-- New's result -/
def newR (a b : Int) : Int × Int × Int := if b = 0 then (0, 0, 2) else red ((decide (a < 0)) != (decide (b < 0))) a.natAbs b.natAbs
theorem abs_lt {a : Int} (h : I64 a) : a.natAbs < 18446744073709551616 := by unfold I64 at h; omega
theorem hi_small {n : Nat} (h : n < 18446744073709551616) : hi n = 0 := by unfold hi; omega
theorem lo_small {n : Nat} (h : n < 18446744073709551616) : lo n = (n : Int) := by unfold lo; omega

theorem rnew_ev {a b : Int} (ha : I64 a) (hb : I64 b) : Ev (fun k => ratio_New.f k a b) (newR a b) := by
  unfold newR
  by_cases h : b = 0
  · rw [if_pos h]; refine Ev.congr (fun k => by unfold ratio_New.f; rw [if_pos h]) (Ev.now _)
  · rw [if_neg h]
    have := lowest_ev ((decide (a < 0)) != (decide (b < 0))) a.natAbs b.natAbs (by have := abs_lt ha; omega) (abs_lt hb) (by omega); rw [hi_small (abs_lt ha), lo_small (abs_lt ha)] at this; refine Ev.congr (fun k => ?_) (Ev.bind (f := fun _ (t : Int × Int × Int) => some (t.1, t.2.1, t.2.2)) this (Ev.now _)); unfold ratio_New.f; rw [if_neg h, abs_eq ha, abs_eq hb, Option.bind_some, Option.bind_some]
theorem fnew_ev {a b : Int} (ha : I64 a) (hb : I64 b) : Ev (fun k => r1_New.f k a b) (newR a b) := by
  unfold newR
  by_cases h : b = 0
  · rw [if_pos h]; refine Ev.congr (fun k => by unfold r1_New.f; rw [if_pos h]) (Ev.now _)
  · rw [if_neg h]
    have := reduce_ev ((decide (a < 0)) != (decide (b < 0))) a.natAbs b.natAbs (by have := abs_lt ha; omega) (by have := abs_lt hb; omega) (by omega); rw [hi_small (abs_lt ha), lo_small (abs_lt ha), hi_small (abs_lt hb), lo_small (abs_lt hb)] at this; refine Ev.congr (fun k => ?_) (Ev.bind (f := fun _ (t : Int × Int × Int) => some (t.1, t.2.1, t.2.2)) this (Ev.now _)); unfold r1_New.f; rw [if_neg h, size_eq ha, size_eq hb, Option.bind_some, Option.bind_some]

/-- which fractions are valid -/
def okR (a b : Int) : Prop := (1 ≤ b ∧ b ≤ 1152921504606846976 ∧ -1152921504606846976 ≤ a ∧ a ≤ 1152921504606846976) ∧ Nat.gcd a.natAbs b.natAbs = 1
instance (a b : Int) : Decidable (okR a b) := by unfold okR; infer_instance
theorem rvalid_ev (a b : Int) : Ev (fun k => ratio_Valid.f k a b) (decide (okR a b)) := by
  by_cases h : 1 ≤ b ∧ b ≤ 1152921504606846976 ∧ -1152921504606846976 ≤ a ∧ a ≤ 1152921504606846976
  · have e : decide (okR a b) = (((Nat.gcd a.natAbs b.natAbs : Nat) : Int) == 1) := by
      rw [Bool.eq_iff_iff, decide_eq_true_eq, beq_iff_eq]; unfold okR; omega
    rw [e]; (have ha : I64 a := by unfold I64; omega); refine Ev.congr (fun k => ?_) (Ev.bind (f := fun _ t => some (t == 1)) (gcd_ev b.natAbs a.natAbs) (Ev.now _)); unfold ratio_Valid.f; rw [if_pos h.1, if_pos h.2.1, if_pos h.2.2.1, if_pos h.2.2.2, abs_eq ha, Option.bind_some]; rw [show IntKind.u64.wrap b = (b.natAbs : Int) from by rw [wu]; omega]
  · have e : decide (okR a b) = false := by rw [decide_eq_false_iff_not]; unfold okR; exact fun c => h c.1
    rw [e]; refine Ev.congr (fun k => ?_) (Ev.now _); unfold ratio_Valid.f
    by_cases h1 : b ≥ 1
    · rw [if_pos h1]
      by_cases h2 : b ≤ 1152921504606846976
      · rw [if_pos h2]
        by_cases h3 : a ≥ -1152921504606846976
        · rw [if_pos h3, if_neg (fun h4 => h ⟨h1, h2, h3, h4⟩)]
        · rw [if_neg h3]
      · rw [if_neg h2]
    · rw [if_neg h1]
theorem fvalid_ev (a b : Int) : Ev (fun k => r1_Valid.f k a b) (decide (okR a b)) := by
  have hf : ¬ (1 ≤ b ∧ b ≤ 1152921504606846976 ∧ -1152921504606846976 ≤ a ∧ a ≤ 1152921504606846976) → Ev (fun k => r1_Valid.j0 k true a b) (decide (okR a b)) := by
    intro h; (have e : decide (okR a b) = false := by rw [decide_eq_false_iff_not]; unfold okR; exact fun c => h c.1); rw [e]; refine ev_some (fun k => ?_); simp only [r1_Valid.j0]; rw [if_pos trivial]
  have ht : (1 ≤ b ∧ b ≤ 1152921504606846976 ∧ -1152921504606846976 ≤ a ∧ a ≤ 1152921504606846976) → Ev (fun k => r1_Valid.j0 k false a b) (decide (okR a b)) := by
    intro h; (have ha : I64 a := by unfold I64; omega); (have hb : I64 b := by unfold I64; omega); have hd := divisor_ev b.natAbs a.natAbs (by have := abs_lt ha; omega) (by have := abs_lt hb; omega)
    have hg : Nat.gcd a.natAbs b.natAbs < 18446744073709551616 := by
      have := Nat.gcd_le_right a.natAbs (show 0 < b.natAbs by omega); omega
    rw [hi_small (abs_lt ha), lo_small (abs_lt ha), hi_small (abs_lt hb), lo_small (abs_lt hb), hi_small hg, lo_small hg] at hd
    have e : decide (okR a b) = (((0 : Int) == 0) && (((Nat.gcd a.natAbs b.natAbs : Nat) : Int) == 1)) := by
      rw [Bool.eq_iff_iff, decide_eq_true_eq]; unfold okR; simp; omega
    rw [e]; refine Ev.step (fun k => ?_) (Ev.bind (f := fun _ (t : Int × Int) => some (t.1 == 0 && (t.2 == 1))) hd (Ev.now _)); simp only [r1_Valid.j0]; rw [if_neg (by decide), size_eq ha, size_eq hb, Option.bind_some, Option.bind_some]
  by_cases h1 : b < 1
  · exact Ev.congr (fun k => by unfold r1_Valid.f; rw [if_pos h1]) (hf (by omega))
  · by_cases h2 : b > 1152921504606846976
    · exact Ev.congr (fun k => by unfold r1_Valid.f; rw [if_neg h1, if_pos h2]) (hf (by omega))
    · by_cases h3 : a < -1152921504606846976
      · exact Ev.congr (fun k => by unfold r1_Valid.f; rw [if_neg h1, if_neg h2, if_pos h3]) (hf (by omega))
      · by_cases h4 : a > 1152921504606846976
        · exact Ev.congr (fun k => by unfold r1_Valid.f; rw [if_neg h1, if_neg h2, if_neg h3, decide_eq_true h4]) (hf (by omega))
        · exact Ev.congr (fun k => by unfold r1_Valid.f; rw [if_neg h1, if_neg h2, if_neg h3, decide_eq_false h4]) (ht (by omega))
end Go.Proofs.YtbapkiclgkddcaaGreatDoor.Mth

/- Products, sums and comparisons of signed numbers of 128 bits; Compare of the program tells what cmpR tells, for all numbers. -/
namespace Go.Proofs.YtbapkiclgkddcaaGreatDoor.Mth
open Go.RowKit Go.Proofs.YtbapkiclgkddcaaGreatDoor.G Go.Proofs.YtbapkiclgkddcaaGreatDoor.Given Go.Proofs.YtbapkiclgkddcaaGreatDoorW.PrintWords Go.Proofs.YtbapkiclgkddcaaGreatDoorW.PrintLast Go.Proofs.YtbapkiclgkddcaaGreatDoorW.PrintMore
set_option linter.unusedVariables false

theorem divN (a : Nat) : (a : Int) / 4294967296 = ((a / 4294967296 : Nat) : Int) := by omega
theorem mulN (a b : Nat) : (a : Int) * (b : Int) = ((a * b : Nat) : Int) := (Int.natCast_mul a b).symm
theorem addN (a b : Nat) : (a : Int) + (b : Int) = ((a + b : Nat) : Int) := (Int.natCast_add a b).symm
theorem wrapN (a : Nat) (ha : a < 18446744073709551616) : IntKind.u64.wrap (a : Int) = (a : Int) := by rw [IntKind.wrap_u64]; omega
theorem wrapM (a : Nat) : IntKind.u64.wrap (a : Int) = ((a % 18446744073709551616 : Nat) : Int) := by rw [IntKind.wrap_u64]; omega
theorem mul64_eq (x y : Nat) (hx : x < 18446744073709551616) (hy : y < 18446744073709551616) : bits_Mul64.f x y = some (hi (x * y), lo (x * y)) := by
  obtain ⟨bd, bt, bw, hhi⟩ := Lib.mul64_hi x y hx hy; have ba := Lib.half_mul_le (a := x / 4294967296) (b := y / 4294967296) (by omega) (by omega); have bb := Lib.half_mul_le (a := x / 4294967296) (b := y % 4294967296) (by omega) (by omega); have bc := Lib.half_mul_le (a := x % 4294967296) (b := y / 4294967296) (by omega) (by omega); (have ba' : x / 4294967296 * (y / 4294967296) < 18446744073709551616 := by omega); (have bb' : x / 4294967296 * (y % 4294967296) < 18446744073709551616 := by omega); (have bc' : x % 4294967296 * (y / 4294967296) < 18446744073709551616 := by omega); (have bh1 : x / 4294967296 * (y / 4294967296) + (x / 4294967296 * (y % 4294967296) + x % 4294967296 * (y % 4294967296) / 4294967296) / 4294967296 < 18446744073709551616 := by omega); (have bh : x / 4294967296 * (y / 4294967296) + (x / 4294967296 * (y % 4294967296) + x % 4294967296 * (y % 4294967296) / 4294967296) / 4294967296 + ((x / 4294967296 * (y % 4294967296) + x % 4294967296 * (y % 4294967296) / 4294967296) % 4294967296 + x % 4294967296 * (y / 4294967296)) / 4294967296 < 18446744073709551616 := by omega); unfold bits_Mul64.f; simp only [maskN x hx, maskN y hy, divN, mulN, addN, wrapN _ bd, wrapN _ bb', wrapN _ bt, maskN _ bt, wrapN _ bc', wrapN _ bw, wrapN _ ba', wrapN _ bh1, wrapN _ bh, wrapM (x * y)]; rw [hhi]; rfl
theorem hl_inj {a b : Nat} : (hi a = hi b ∧ lo a = lo b) ↔ a = b := by unfold hi lo; omega
def cmpN (a b : Nat) : Int := if a < b then -1 else if a = b then 0 else 1
theorem wcompare_ev (s t : Bool) (a b : Nat) : Ev (fun k => ratio_wide_compare.f k s (hi a) (lo a) t (hi b) (lo b)) (cmpN a b) := by
  have k1 : Ev (fun k => ratio_wide_compare.j1 k (decide (a < b)) s (hi a) (lo a) t (hi b) (lo b)) (cmpN a b) := by
    refine ev_some (fun k => ?_); simp only [ratio_wide_compare.j1, decide_eq_true_eq]; unfold cmpN
    by_cases h : a < b
    · rw [if_pos h, if_pos h]
    · rw [if_neg h, if_neg h]
      by_cases h2 : a = b
      · subst h2; rw [if_pos rfl, if_pos rfl, if_pos rfl]
      · rw [if_neg h2]
        by_cases h3 : hi a = hi b
        · rw [if_pos h3, if_neg (fun h4 => h2 (hl_inj.1 ⟨h3, h4⟩))]
        · rw [if_neg h3]
  by_cases h : hi a = hi b
  · refine Ev.congr (fun k => by unfold ratio_wide_compare.f; rw [if_pos h]) ?_
    refine Ev.step (fun k => ?_) k1; simp only [ratio_wide_compare.j0]; rw [if_neg (by decide), if_pos h, show decide (lo a < lo b) = decide (a < b) from by rw [decide_eq_decide]; unfold hi at h; unfold lo; omega]
  · refine Ev.congr (fun k => by unfold ratio_wide_compare.f; rw [if_neg h]) ?_
    refine Ev.step (fun k => ?_) k1; simp only [ratio_wide_compare.j0]; rw [show decide (hi a < hi b) = decide (a < b) from by rw [decide_eq_decide]; unfold hi at h ⊢; omega]
    by_cases h2 : a < b
    · rw [if_pos (by simpa using h2)]
    · rw [if_neg (by simpa using h2), if_neg h, show decide (a < b) = false from decide_eq_false h2]

/-- the sum of two signed magnitudes -/
def tot (x : Bool) (a : Nat) (y : Bool) (b : Nat) : Bool × Nat := if x = y then (x, a + b) else if b ≤ a then (x, a - b) else (y, b - a)
theorem tot_same {x y : Bool} (a b : Nat) (h : x = y) : tot x a y b = (x, a + b) := by unfold tot; rw [if_pos h]
theorem tot_ge {x y : Bool} {a b : Nat} (h : x ≠ y) (hl : b ≤ a) : tot x a y b = (x, a - b) := by unfold tot; rw [if_neg h, if_pos hl]
theorem tot_lt {x y : Bool} {a b : Nat} (h : x ≠ y) (hl : ¬ b ≤ a) : tot x a y b = (y, b - a) := by unfold tot; rw [if_neg h, if_neg hl]
/-- what Compare tells -/
def cmpR (a b c d : Int) : Int := if okR a b ∧ okR c d then (if a * d < c * b then -1 else if a * d = c * b then 0 else 1) else 0
theorem signed (a d : Int) (hd : 0 ≤ d) : a * d = if a < 0 then -((a.natAbs * d.natAbs : Nat) : Int) else ((a.natAbs * d.natAbs : Nat) : Int) := by
  rw [Int.natCast_mul]; (have e : ((d.natAbs : Nat) : Int) = d := by omega); rw [e]
  split
  · rw [show ((a.natAbs : Nat) : Int) = -a from by omega, Int.neg_mul, Int.neg_neg]
  · rw [show ((a.natAbs : Nat) : Int) = a from by omega]
theorem mag_pos {a d : Int} (ha : a ≠ 0) (hd : d ≠ 0) : 0 < a.natAbs * d.natAbs := Nat.mul_pos (by omega) (by omega)
theorem mag_zero {a d : Int} (ha : a = 0) : a.natAbs * d.natAbs = 0 := by subst ha; exact Nat.zero_mul _
theorem ok_small {a b : Int} (h : okR a b) : I64 a ∧ I64 b ∧ 1 ≤ b ∧ a.natAbs ≤ 1152921504606846976 ∧ b.natAbs ≤ 1152921504606846976 := by
  obtain ⟨⟨h1, h2, h3, h4⟩, _⟩ := h; unfold I64; omega
theorem mag_le {a d : Int} (ha : a.natAbs ≤ 1152921504606846976) (hd : d.natAbs ≤ 1152921504606846976) : a.natAbs * d.natAbs ≤ 1329227995784915872903807060280344576 :=
  Nat.le_trans (Nat.mul_le_mul ha hd) (by decide)
theorem wrap_abs {b : Int} (h : 1 ≤ b) (h2 : b.natAbs ≤ 1152921504606846976) : IntKind.u64.wrap b = (b.natAbs : Int) := by rw [wu]; omega

end Go.Proofs.YtbapkiclgkddcaaGreatDoor.Mth

/- What reducing and adding signed magnitudes keep; the sum of the program; what Add tells. -/
namespace Go.Proofs.YtbapkiclgkddcaaGreatDoor.Mth
open Go.RowKit Go.Proofs.YtbapkiclgkddcaaGreatDoor.G Go.Proofs.YtbapkiclgkddcaaGreatDoor.Given Go.Proofs.YtbapkiclgkddcaaGreatDoorW.PrintWords Go.Proofs.YtbapkiclgkddcaaGreatDoorW.PrintLast Go.Proofs.YtbapkiclgkddcaaGreatDoorW.PrintMore
set_option linter.unusedVariables false

theorem red_scale (s : Bool) (k n d : Nat) (hk : 0 < k) : red s (k * n) (k * d) = red s n d := by
  unfold red; rw [Nat.gcd_mul_left, Nat.mul_div_mul_left _ _ hk, Nat.mul_div_mul_left _ _ hk]
theorem red_zero (s : Bool) (d : Nat) (hd : 0 < d) : red s 0 d = (0, 1, 0) := by
  unfold red; rw [Nat.gcd_zero_left, Nat.zero_div, Nat.div_self hd]
  cases s <;> rfl
theorem red_coprime (s : Bool) (n d : Nat) (h : Nat.gcd n d = 1) (hd : 1152921504606846976 < d) : red s n d = (0, 0, 6) := by
  unfold red; rw [h, Nat.div_one, Nat.div_one, if_neg (by omega)]
theorem tot_scale (k : Nat) (hk : 0 < k) (x : Bool) (a : Nat) (y : Bool) (b : Nat) : tot x (k * a) y (k * b) = ((tot x a y b).1, k * (tot x a y b).2) := by
  by_cases h : x = y
  · rw [tot_same _ _ h, tot_same _ _ h, Nat.mul_add]
  · by_cases hl : b ≤ a
    · rw [tot_ge h hl, tot_ge h (Nat.mul_le_mul_left k hl), Nat.mul_sub]
    · rw [tot_lt h hl, tot_lt h (fun c => hl (Nat.le_of_mul_le_mul_left c hk)), Nat.mul_sub]
theorem tot_le (x : Bool) (a : Nat) (y : Bool) (b : Nat) : (tot x a y b).2 ≤ a + b := by
  by_cases h : x = y
  · rw [tot_same _ _ h]; exact Nat.le_refl _
  · by_cases hl : b ≤ a
    · rw [tot_ge h hl]; show a - b ≤ a + b; omega
    · rw [tot_lt h hl]; show b - a ≤ a + b; omega
/-- what divides the sum and one part divides the other part -/
theorem tot_dvd_left {k : Nat} {x : Bool} {a : Nat} {y : Bool} {b : Nat} (ht : k ∣ (tot x a y b).2) (hb : k ∣ b) : k ∣ a := by
  by_cases h : x = y
  · rw [tot_same _ _ h] at ht; exact (Nat.dvd_add_left hb).1 ht
  · by_cases hl : b ≤ a
    · rw [tot_ge h hl] at ht
      have ht' : k ∣ a - b := ht; have := Nat.dvd_add ht' hb
      rwa [Nat.sub_add_cancel hl] at this
    · rw [tot_lt h hl] at ht
      have ht' : k ∣ b - a := ht; have := Nat.dvd_sub hb ht'
      rwa [show b - (b - a) = a from by omega] at this
theorem tot_dvd_right {k : Nat} {x : Bool} {a : Nat} {y : Bool} {b : Nat} (ht : k ∣ (tot x a y b).2) (ha : k ∣ a) : k ∣ b := by
  by_cases h : x = y
  · rw [tot_same _ _ h] at ht; exact (Nat.dvd_add_right ha).1 ht
  · by_cases hl : b ≤ a
    · rw [tot_ge h hl] at ht
      have ht' : k ∣ a - b := ht; have := Nat.dvd_sub ha ht'
      rwa [show a - (a - b) = b from by omega] at this
    · rw [tot_lt h hl] at ht
      have ht' : k ∣ b - a := ht; have := Nat.dvd_add ht' ha
      rwa [Nat.sub_add_cancel (by omega)] at this
theorem coprime_part {A q p : Nat} (h1 : Nat.gcd p A = 1) (h2 : Nat.gcd p q = 1) {k : Nat} (hk : k ∣ p) (hd : k ∣ A * q) : k = 1 := by
  have h3 : Nat.gcd k A = 1 := Nat.Coprime.coprime_dvd_left hk h1; have h4 : k ∣ q := Nat.Coprime.dvd_of_dvd_mul_left h3 hd; have := Nat.dvd_gcd hk h4; rw [h2] at this; exact Nat.dvd_one.1 this

theorem add64_eq (x y z : Nat) (hz : z ≤ 1) : bits_Add64.f x y z = some ((((x + y + z) % 18446744073709551616 : Nat) : Int), (((x + y + z) / 18446744073709551616 : Nat) : Int)) := by
  unfold bits_Add64.f; rw [if_pos (by omega)]; rfl
theorem wplus_ev (x : Bool) (a : Nat) (y : Bool) (b : Nat) (h : a + b < 340282366920938463463374607431768211456) :
    Ev (fun k => ratio_wide_plus.f k x (hi a) (lo a) y (hi b) (lo b)) ((tot x a y b).1, hi (tot x a y b).2, lo (tot x a y b).2) := by
  have hm (a b : Nat) (hab : b ≤ a) (ha : a < 340282366920938463463374607431768211456) (z : Bool) : ((bits_Sub64.f (lo a) (lo b) 0).bind fun bt545 => ((bits_Sub64.f (hi a) (hi b) bt545.2).bind fun bt547 => some (z, bt547.1, bt545.1))) = some (z, hi (a - b), lo (a - b)) := by
    have := minus_eq a b ha (by omega); rw [show (a + 340282366920938463463374607431768211456 - b) % 340282366920938463463374607431768211456 = a - b from by omega] at this; unfold r1_Minus.f at this
    cases e1 : bits_Sub64.f (lo a) (lo b) 0 with
    | none => rw [e1] at this; simp at this
    | some v =>
      rw [e1, Option.bind_some] at this; rw [Option.bind_some]
      cases e2 : bits_Sub64.f (hi a) (hi b) v.2 with
      | none => rw [e2] at this; simp at this
      | some u =>
        rw [e2, Option.bind_some] at this; rw [Option.bind_some]; simp only [Option.some.injEq, Prod.mk.injEq] at this; rw [this.1, this.2]
  by_cases hxy : x = y
  · rw [tot_same a b hxy]
    refine Ev.congr (fun k => ?_) (Ev.now _); have := plus_eq a b (by omega) (by omega); rw [Nat.mod_eq_of_lt h] at this; unfold r1_Plus.f at this; unfold ratio_wide_plus.f; rw [if_pos (by simpa using hxy)]
    cases e1 : bits_Add64.f (lo a) (lo b) 0 with
    | none => rw [e1] at this; simp at this
    | some v =>
      rw [e1, Option.bind_some] at this; rw [Option.bind_some]
      cases e2 : bits_Add64.f (hi a) (hi b) v.2 with
      | none => rw [e2] at this; simp at this
      | some u =>
        rw [e2, Option.bind_some] at this; rw [Option.bind_some]; simp only [Option.some.injEq, Prod.mk.injEq] at this; rw [this.1, this.2]
  · refine Ev.congr (fun k => by unfold ratio_wide_plus.f; rw [if_neg (by simpa using hxy)]) ?_
    refine Ev.bind (wcompare_ev x y a b) ?_; refine Ev.congr (fun k => ?_) (Ev.now _); unfold cmpN
    by_cases hl : b ≤ a
    · rw [tot_ge hxy hl, if_neg (by repeat' (first | omega | split)), hm a b hl (by omega)]
    · rw [tot_lt hxy hl, if_pos (by rw [if_pos (by omega)]; omega), hm b a (by omega) (by omega)]

end Go.Proofs.YtbapkiclgkddcaaGreatDoor.Mth

/- The reference's number and index: what they tell of a text. -/
namespace Go.Proofs.YtbapkiclgkddcaaGreatDoor.Mth
open Go.RowKit Go.Proofs.YtbapkiclgkddcaaGreatDoor.G Go.Proofs.YtbapkiclgkddcaaGreatDoor.Given Go.Proofs.YtbapkiclgkddcaaGreatDoorW.PrintWords Go.Proofs.YtbapkiclgkddcaaGreatDoorW.PrintLast Go.Proofs.YtbapkiclgkddcaaGreatDoorW.PrintMore
set_option linter.unusedVariables false
theorem nxb (i : Nat) (h : i ≤ 9223372036854775806) : wrap64 ((i : Int) + 1) = ((i + 1 : Nat) : Int) := by unfold wrap64; omega
theorem red_sign (s : Bool) (n C : Nat) (hC : 0 < C) : red (s && !decide (n = 0)) n C = red s n C := by
  by_cases h : n = 0
  · subst h; rw [red_zero _ _ hC, red_zero _ _ hC]
  · rw [decide_eq_false h, Bool.not_false, Bool.and_true]
theorem bt_list (s : ByteArray) (i : Nat) (c : UInt8) (r : List UInt8) (h : s.data.toList.drop i = c :: r) : i < s.size ∧ bt s i = (c.toNat : Int) ∧ s.data.toList.drop (i + 1) = r := by
  have hl : s.data.toList.length = s.size := by simp
  have hi : i < s.data.toList.length := by
    apply Decidable.byContradiction; intro hc; rw [List.drop_eq_nil_of_le (by omega)] at h
    cases h
  rw [List.drop_eq_getElem_cons hi] at h; injection h with h1 h2; refine ⟨by omega, ?_, h2⟩; unfold bt; rw [dif_pos (show (i : Int).toNat < s.size by simp; omega)]; rw [← h1]; rfl
theorem bt_nil (s : ByteArray) (i : Nat) (h : s.data.toList.drop i = []) : s.size ≤ i := by
  (have hl : s.data.toList.length = s.size := by simp); have := List.drop_eq_nil_iff.1 h; omega
/-- what number tells -/
def num (s : ByteArray) (m : Nat) : Int × Bool := if 1 ≤ s.size ∧ s.size ≤ m ∧ allD s.data.toList = true then ((dval 0 s.data.toList : Int), true) else (0, false)
/-- the first place of a byte, else -1 -/
def idx (c : Nat) : List UInt8 → Int
  | [] => -1
  | b :: l => if b.toNat = c then 0 else if idx c l = -1 then -1 else idx c l + 1
theorem idx_ge (c : Nat) : ∀ l, -1 ≤ idx c l ∧ idx c l < l.length := by
  intro l
  induction l with
  | nil => simp [idx]
  | cons b l ih =>
    simp only [idx, List.length_cons]
    split
    · omega
    · split
      · omega
      · omega
end Go.Proofs.YtbapkiclgkddcaaGreatDoor.Mth

/- ratio.Parse behind its cut, and the reference's Parse: both tell the same three laws. -/
namespace Go.Proofs.YtbapkiclgkddcaaGreatDoor.Mth
open Go.RowKit Go.Proofs.YtbapkiclgkddcaaGreatDoor.G Go.Proofs.YtbapkiclgkddcaaGreatDoor.Given Go.Proofs.YtbapkiclgkddcaaGreatDoorW.PrintWords Go.Proofs.YtbapkiclgkddcaaGreatDoorW.PrintLast Go.Proofs.YtbapkiclgkddcaaGreatDoorW.PrintMore
set_option linter.unusedVariables false
def okd (s : ByteArray) (m : Nat) : Bool := decide (1 ≤ s.size ∧ s.size ≤ m) && allD s.data.toList
def va (s : ByteArray) : Nat := dval 0 s.data.toList
def R47 (neg : Bool) (wh be : ByteArray) : Int × Int × Int := if okd wh 19 = true then (if okd be 19 = true then (if va be = 0 then (0, 0, 2) else red neg (va wh) (va be)) else (0, 0, 7)) else (0, 0, 7)
def R46 (neg : Bool) (wh be : ByteArray) : Int × Int × Int := if okd wh 19 = true then (if okd be 9 = true then red neg (va wh * 10 ^ be.size + va be) (10 ^ be.size) else (0, 0, 7)) else (0, 0, 7)
def R0 (neg : Bool) (wh : ByteArray) : Int × Int × Int := if okd wh 19 = true then red neg (va wh) 1 else (0, 0, 7)
theorem okd_iff {s : ByteArray} {m : Nat} (h : okd s m = true) : 1 ≤ s.size ∧ s.size ≤ m ∧ allD s.data.toList = true := by
  unfold okd at h; rw [Bool.and_eq_true, decide_eq_true_eq] at h; exact ⟨h.1.1, h.1.2, h.2⟩
theorem num_okd (s : ByteArray) (m : Nat) : num s m = if okd s m = true then ((va s : Int), true) else (0, false) := by
  unfold num va
  by_cases h : okd s m = true
  · rw [if_pos h, if_pos (okd_iff h)]
  · rw [if_neg h, if_neg]
    intro h2; apply h; unfold okd; rw [decide_eq_true ⟨h2.1, h2.2.1⟩, h2.2.2]; rfl
theorem va_u {s : ByteArray} {m : Nat} (hm : m ≤ 19) (h : okd s m = true) : parseU s = some (va s) ∧ va s < 10000000000000000000 := by
  obtain ⟨a, b, c⟩ := okd_iff h; exact parseU_eq s c a (by omega)
theorem allD_ascii {l : List UInt8} (h : allD l = true) : asciiB l = true := by
  unfold allD at h; unfold asciiB; rw [List.all_eq_true] at h ⊢; intro x hx; have := isD_bd (h x hx); exact decide_eq_true (by omega)
theorem p10 (m : Nat) (h : m ≤ 9) : 0 < 10 ^ m ∧ 10 ^ m ≤ 1000000000 := ⟨Nat.pow_pos (by omega), Nat.le_trans (Nat.pow_le_pow_right (by omega) h) (by decide)⟩
theorem digits_okd (s : ByteArray) (m : Nat) (hs : s.size ≤ 9223372036854775807) : ratio_digits.f s m = some (okd s m) := digits_eq s m hs
theorem low_small (neg : Bool) (n d : Nat) (hn : n < 10000000000000000000) (hd : d < 10000000000000000000) (h0 : 0 < d) : Ev (fun k => ratio_lowest.f k neg 0 n d) (red neg n d) := by
  have := lowest_ev neg n d (by omega) (by omega) h0; rw [hi_small (by omega), lo_small (by omega)] at this; exact this
theorem tail47 (neg : Bool) (wh be : ByteArray) (h1 : wh.size ≤ 9223372036854775807) (h2 : be.size ≤ 9223372036854775807) : Ev (fun k => ratio_Parse.tail k neg wh be 47) (R47 neg wh be) := by
  unfold R47; refine Ev.congr (fun k => by unfold ratio_Parse.tail; rw [show (19 : Int) = ((19 : Nat) : Int) from rfl, digits_okd wh 19 h1, Option.bind_some]) ?_
  by_cases c1 : okd wh 19 = true
  · rw [if_pos c1]
    refine Ev.congr (fun k => by rw [if_pos c1, if_pos rfl, digits_okd be 19 h2, Option.bind_some]) ?_
    by_cases c2 : okd be 19 = true
    · rw [if_pos c2]
      obtain ⟨u1, b1⟩ := va_u (by omega) c1; obtain ⟨u2, b2⟩ := va_u (by omega) c2; refine Ev.congr (fun k => by rw [if_pos c2, u1, Option.bind_some, u2, Option.bind_some]) ?_
      by_cases c3 : va be = 0
      · rw [if_pos c3]
        exact Ev.congr (fun k => by rw [if_pos c3]) (Ev.now _)
      · rw [if_neg c3]
        exact Ev.congr (fun k => by rw [if_neg c3]) (low_small neg _ _ b1 b2 (by omega))
    · rw [if_neg c2]
      exact Ev.congr (fun k => by rw [if_neg c2]) (Ev.now _)
  · rw [if_neg c1]
    exact Ev.congr (fun k => by rw [if_neg c1]) (Ev.now _)
theorem tail0 (neg : Bool) (wh be : ByteArray) (h1 : wh.size ≤ 9223372036854775807) : Ev (fun k => ratio_Parse.tail k neg wh be 0) (R0 neg wh) := by
  unfold R0; refine Ev.congr (fun k => by unfold ratio_Parse.tail; rw [show (19 : Int) = ((19 : Nat) : Int) from rfl, digits_okd wh 19 h1, Option.bind_some]) ?_
  by_cases c1 : okd wh 19 = true
  · rw [if_pos c1]
    obtain ⟨u1, b1⟩ := va_u (by omega) c1; refine Ev.congr (fun k => by rw [if_pos c1, if_neg (by decide), if_neg (by decide), u1, Option.bind_some]) ?_; exact low_small neg _ 1 b1 (by omega) (by omega)
  · rw [if_neg c1]
    exact Ev.congr (fun k => by rw [if_neg c1]) (Ev.now _)
theorem tail46 (neg : Bool) (wh be : ByteArray) (h1 : wh.size ≤ 9223372036854775807) (h2 : be.size ≤ 9223372036854775807) : Ev (fun k => ratio_Parse.tail k neg wh be 46) (R46 neg wh be) := by
  unfold R46; refine Ev.congr (fun k => by unfold ratio_Parse.tail; rw [show (19 : Int) = ((19 : Nat) : Int) from rfl, digits_okd wh 19 h1, Option.bind_some]) ?_
  by_cases c1 : okd wh 19 = true
  · rw [if_pos c1]
    refine Ev.congr (fun k => by rw [if_pos c1, if_neg (by decide), if_pos rfl, show (9 : Int) = ((9 : Nat) : Int) from rfl, digits_okd be 9 h2, Option.bind_some]) ?_
    by_cases c2 : okd be 9 = true
    · rw [if_pos c2]
      obtain ⟨u1, b1⟩ := va_u (by omega) c1; obtain ⟨u2, b2⟩ := va_u (by omega) c2; obtain ⟨q1, q2, q3⟩ := okd_iff c2; obtain ⟨t1, t2⟩ := p10 be.size q2; obtain ⟨T, hT⟩ : ∃ T, 10 ^ be.size = T := ⟨_, rfl⟩; rw [hT] at t1 t2; have hm := mul64_eq (va wh) T (by omega) (by omega); have hp : va wh * T ≤ 10000000000000000000 * 1000000000 := Nat.mul_le_mul (by omega) t2; have hw := wplus_ev neg (va wh * T) neg (va be) (by omega); rw [tot_same _ _ rfl, hi_small (n := va be) (by omega), lo_small (n := va be) (by omega)] at hw; have hl := lowest_ev neg (va wh * T + va be) T (by omega) (by omega) t1; refine Ev.congr (fun k => by rw [if_pos c2, if_pos ⟨allD_ascii q3, q2⟩, u1, Option.bind_some, u2, Option.bind_some, hT, hm, Option.bind_some]) ?_; rw [hT]; exact Ev.bind hw hl
    · rw [if_neg c2]
      exact Ev.congr (fun k => by rw [if_neg c2]) (Ev.now _)
  · rw [if_neg c1]
    exact Ev.congr (fun k => by rw [if_neg c1]) (Ev.now _)
/-! the reference -/
theorem sgn_eq (neg : Bool) (n d : Nat) (h0 : 0 < d) (b : Bool) (hb : b = true ↔ n ≠ 0) : red (neg && b) n d = red neg n d := by
  have e : b = !decide (n = 0) := by
    by_cases h : n = 0
    · rw [decide_eq_true h]
      cases b with
      | true => exact absurd h (hb.1 rfl)
      | false => rfl
    · rw [decide_eq_false h, hb.2 h]; rfl
  rw [e]; exact red_sign neg n d h0
theorem fred (neg : Bool) (n d : Nat) (hn : n < 340282366920938463463374607431768211456) (hd : d < 10000000000000000000) (h0 : 0 < d) (b : Bool) (hb : b = true ↔ n ≠ 0) :
    Ev (fun k => if neg = true then ((r1_Reduce.f k b (hi n) (lo n) 0 d).bind fun bt => some (bt.1, bt.2.1, bt.2.2)) else ((r1_Reduce.f k false (hi n) (lo n) 0 d).bind fun bt => some (bt.1, bt.2.1, bt.2.2))) (red neg n d) := by
  cases neg with
  | true =>
    have h := reduce_ev b n d hn (by omega) h0; rw [hi_small (n := d) (by omega), lo_small (n := d) (by omega), show red b n d = red true n d from sgn_eq true n d h0 b hb] at h; exact Ev.congr (fun k => by rw [if_pos rfl]) (Ev.bind h (Ev.now _))
  | false =>
    have h := reduce_ev false n d hn (by omega) h0; rw [hi_small (n := d) (by omega), lo_small (n := d) (by omega)] at h; exact Ev.congr (fun k => by rw [if_neg (by decide)]) (Ev.bind h (Ev.now _))
theorem fred0 (neg : Bool) (n d : Nat) (hn : n < 10000000000000000000) (hd : d < 10000000000000000000) (h0 : 0 < d) :
    Ev (fun k => if neg = true then ((r1_Reduce.f k (decide ((n : Int) > 0)) 0 n 0 d).bind fun bt => some (bt.1, bt.2.1, bt.2.2)) else ((r1_Reduce.f k false 0 n 0 d).bind fun bt => some (bt.1, bt.2.1, bt.2.2))) (red neg n d) := by
  have h := fred neg n d (by omega) hd h0 (decide ((n : Int) > 0)) (by rw [decide_eq_true_eq]; omega); rw [hi_small (n := n) (by omega), lo_small (n := n) (by omega)] at h; exact h
end Go.Proofs.YtbapkiclgkddcaaGreatDoor.Mth
