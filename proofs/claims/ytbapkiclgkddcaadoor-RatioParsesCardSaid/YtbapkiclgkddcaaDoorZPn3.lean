/- Texts of this claim laid together: Gf18, Gf50, Gf53, Gf60, Gf61, Gf51, Gf52, Gf75. -/
import Derived.Test.YtbapkiclgkddcaaDoorShortC
import Derived.Test.YtbapkiclgkddcaaDoorZPn2
import Derived.Test.YtbapkiclgkddcaaDoorG0
import Derived.Test.YtbapkiclgkddcaaDoorGe0
import Derived.Test.YtbapkiclgkddcaaDoorZPn1
import Derived.Test.YtbapkiclgkddcaaDoorGe1
-- Printed by gp.py (a program of this session's own, over the kit's printer) out of the translation; Lean checks it.
namespace Go.Proofs.YtbapkiclgkddcaaDoor.G
open Go.Proofs.YtbapkiclgkddcaaDoor.Given Go.Proofs.YtbapkiclgkddcaaDoor.Short
open Go.RowKit Go.Proofs.YtbapkiclgkddcaaDoorW.PrintWords Go.Proofs.YtbapkiclgkddcaaDoorW.PrintLast Go.Proofs.YtbapkiclgkddcaaDoorW.PrintMore
attribute [local go_sem] max2_int min2_int max_two min_two max_three min_three max_four min_four   -- for this text's walks alone
set_option linter.unusedVariables false
set_option linter.unusedSimpArgs false

attribute [local go_sem high] eqA24
/-! ### awardingbodylaw01_awake: function 18 -/
def awardingbodylaw01_awake.f (k : Nat)  : Option (Bool) := (ratio_New.f k 6 (-4)).bind fun bt122 => ((ratio_Apportion.f 3 (([5, 3, 0] : List Int))).bind fun bt129 => (if bt122.2.2 = 0 then (if (bt122.1 == (-3) && (bt122.2.1 == 2)) = true then (if bt129.2 = 0 then (if (bt129.1.length : Int) = 3 then (if 0 < (bt129.1.length : Int) then (if (rd bt129.1 0) = 2 then (if 1 < (bt129.1.length : Int) then (if (rd bt129.1 1) = 1 then (if 2 < (bt129.1.length : Int) then (some ((rd bt129.1 2) == 0)) else (none)) else (some false)) else (none)) else (some false)) else (none)) else (some false)) else (some false)) else (some false)) else (some false)))
theorem awardingbodylaw01_awake.mono : ∀ k, LeO (awardingbodylaw01_awake.f k ) (awardingbodylaw01_awake.f (k + 1) ) := by
 intro  k; unfold awardingbodylaw01_awake.f
 repeat' first
   | (with_reducible exact ratio_New.mono _ _ _)
   | (with_reducible exact LeO.refl _)
   | (with_reducible exact LeO.none _)
   | (with_reducible refine LeO.ite ?_ ?_)
   | (with_reducible refine LeO.bind ?_ (fun _ => ?_))
   | exact ratio_New.mono _ _ _
   | exact LeO.none _
   | refine LeO.ite ?_ ?_
   | refine LeO.bind ?_ (fun _ => ?_)
set_option maxHeartbeats 8000000 in
set_option maxRecDepth 100000 in
theorem awardingbodylaw01_awake.calls (k : Nat)  (r : Bool) (w : World) (h : awardingbodylaw01_awake.f k  = some r) :
  Calls Tryd.prog 18 #[] w fun e w' => e = .returned (.bool r) ∧ Below w.heap.size w w' := by
 have hu24 := Tryd.underlying24; have HB := Aside0.mk (Below.refl w.heap.size w); have H : ((ratio_New.f k 6 (-4)).bind fun bt122 => ((ratio_Apportion.f 3 (([5, 3, 0] : List Int))).bind fun bt129 => (if bt122.2.2 = 0 then (if (bt122.1 == (-3) && (bt122.2.1 == 2)) = true then (if bt129.2 = 0 then (if (bt129.1.length : Int) = 3 then (if 0 < (bt129.1.length : Int) then (if (rd bt129.1 0) = 2 then (if 1 < (bt129.1.length : Int) then (if (rd bt129.1 1) = 1 then (if 2 < (bt129.1.length : Int) then (some ((rd bt129.1 2) == 0)) else (none)) else (some false)) else (none)) else (some false)) else (none)) else (some false)) else (some false)) else (some false)) else (some false)))) = some r := h; clear h; replace H := Option.bind_eq_some_iff.mp H; obtain ⟨⟨t122, t123, t124⟩, A10, H⟩ := H; (try dsimp only at H); have A1 := Aside0.mk A10; clear A10; obtain ⟨y126, hy126⟩ : ∃ y_ : List Int, y_ = (([5, 3, 0] : List Int)) := ⟨_, rfl⟩; (replace H : ((ratio_Apportion.f 3 y126).bind fun bt129 => (if t124 = 0 then (if (t122 == (-3) && (t123 == 2)) = true then (if bt129.2 = 0 then (if (bt129.1.length : Int) = 3 then (if 0 < (bt129.1.length : Int) then (if (rd bt129.1 0) = 2 then (if 1 < (bt129.1.length : Int) then (if (rd bt129.1 1) = 1 then (if 2 < (bt129.1.length : Int) then (some ((rd bt129.1 2) == 0)) else (none)) else (some false)) else (none)) else (some false)) else (none)) else (some false)) else (some false)) else (some false)) else (some false))) = some r := by first | (rw [hy126]; with_reducible exact H) | (have H2_ := (Option.bind_some _ _).symm.trans H; rw [hy126]; with_reducible exact H2_) | (have H2_ := (Option.bind_some _ _).symm.trans H; with_reducible exact H2_) | with_reducible exact H | (rw [hy126]; exact H) | exact H); have Ny126 := Aside0.mk hy126; clear hy126; replace H := Option.bind_eq_some_iff.mp H; obtain ⟨⟨t129, t130⟩, A20, H⟩ := H; (try dsimp only at H); have A2 := Aside0.mk A20; clear A20; have HC3 := Aside0.mk H; clear H; go_enter Tryd.func18, Tryd.ntmps18
 go_upto_region 3 with (first | ((with_reducible refine gate_callee (f := 20) rfl ?_); refine gl (some 6) Tryd.func20 #[.int .i64 6, .int .i64 (-4)] ?_; (with_reducible refine (ratio_New.calls k 6 (-4) t122 t123 t124 _ A1.out).mono ?_); rintro e w4 ⟨rfl, hb⟩; refine ⟨_, rfl, ?_⟩; replace HB := wb HB hb; (try clear hb); (try clear hb2); (try clear hk); (try clear hi)) | ((with_reducible refine gate_dst (N := 1) rfl ?_); (try (refine gate_guard (by rfl) ?_; dsimp only)); refine bx (N := 1) (cs := #[.int .i64 0, .int .i64 0]) (t := 24) ?_; intro gb125 hg w5 hbox hb; have BK125 := Aside0.mk (hbox); have GW125 := gs HB hg; have GE125 := gs HB hg; replace HB := wb HB hb; clear hb hbox hg; have hcz6_0 : w5.cell? ⟨gb125, 0, none⟩ = some (.int .i64 0) := bc BK125 0; have hcz6_1 : w5.cell? ⟨gb125, 1, none⟩ = some (.int .i64 0) := bc BK125 1; have hfz6_0 := blk_frozen BK125.out 0; have hfz6_1 := blk_frozen BK125.out 1) | ((with_reducible refine gate_dst (N := 10) rfl ?_); (try (refine gate_guard (by rfl) ?_; dsimp only)); refine Kd.R_lit (Kd.int .i64) _ 3 ?hg (N := 10) ?hd (xs := ([5, 3, 0] : List Int)) (inner := [.int .i64 5, .int .i64 3, .int .i64 0]) (ok := fun _ => True) (okp := fun _ => True) ?hr ?hp (fun _ hk => hk) trivial (Below.refl _ _) (Nat.le_refl _) (by simp) ?_; (case hd => rfl); (case hg => rfl); (case hr => first | (go_simp; done) | (go_simp; rfl)); (case hp => exact (Reps.one (show Kd.M (Kd.int .i64) _ _ _ 5 [.int .i64 5] from rfl) (Reps.one (show Kd.M (Kd.int .i64) _ _ _ 3 [.int .i64 3] from rfl) (Reps.one (show Kd.M (Kd.int .i64) _ _ _ 0 [.int .i64 0] from rfl) (Reps.none _ _))))); intro v127 w7 ho8 hb hg_ hnew_; clear hg_ hnew_; (first | rw [← Ny126.out] at ho8 | (simp only [Int.reduceToNat] at ho8; rw [← Ny126.out] at ho8)); have HO128 := Aside0.mk (Kd.R_lower ho8 (below_size (bw HB))); replace BK125 := Aside0.mk (blk_below (g := gb125) (o := .cells #[.int .i64 t122, .int .i64 t123] 24 (0, 0)) (by refine pe ?_; refine blk_put (cs := #[.int .i64 t122, .int .i64 0]) ?_ 1 _ rfl; refine pe ?_; refine blk_put (cs := #[.int .i64 0, .int .i64 0]) ?_ 0 _ rfl; refine pe ?_; exact BK125.out) hb); replace HB := wb HB hb; clear hb ho8; obtain ⟨Ao9, co9, eo9⟩ := Kd.R_slice HO128.out; subst eo9) | ((with_reducible refine gate_callee (f := 38) rfl ?_); refine gl (some 11) Tryd.func38 #[.int .i64 3, .slice Ao9 y126.length co9] ?_; (with_reducible refine (ratio_Apportion.calls 3 _ _ y126 t129 t130 _ ?side1 ?side2 A2.out).mono ?_); (case side1 => repeat (first | exact (Kd.R_reads' HO128.out).2.2 | (with_reducible refine Kd.C_alloc ?_ _) | (with_reducible refine Kd.C_drewN ?_ _) | (with_reducible refine Kd.C_drew ?_))); (case side2 => exact (Kd.R_reads' HO128.out).2.1); rintro e w10 ⟨v131, rfl, ho0, hb⟩; refine ⟨_, rfl, ?_⟩; have HO132 := Aside0.mk (Kd.R_lower (Kd.R_new' ho0 (Kd.R_lt (by (with_reducible repeat (first | apply Kd.R_alloc | apply Kd.R_drewN | apply Kd.R_drew)); exact HO128.out))) (below_size (bw HB))); replace HO128 := Aside0.mk (Kd.R_elder' (by (with_reducible repeat (first | apply Kd.R_alloc | apply Kd.R_drewN | apply Kd.R_drew)); exact HO128.out) (Kd.R_base ho0) hb); replace BK125 := kb BK125 hb; replace HB := wb HB hb; (try clear hb); (try clear hb2); (try clear hk); (try clear hi); (try clear ho0)))
 (try simp only [Act.put, List.setIfInBounds_toArray, List.set_cons_zero, List.set_cons_succ]); have H := HC3.out; clear HC3
 by_cases c11 : t124 = 0
 ·rw [if_pos c11] at H; have c11b0 : (t124 == 0) = true := beq_iff_eq.mpr c11; have c11b1 : (t124 != 0) = false := bne_eq_false_iff_eq.mpr c11; clear c11
  (first | rw [c11b0] | (simp only [i64_w, i32_w]; rw [c11b0]) | skip)
  by_cases c12 : (t122 == (-3) && (t123 == 2)) = true
  ·rw [if_pos c12] at H; have c12b0 : (t122 == (-3) && (t123 == 2)) = true := c12; (try (have c12b1 : decide (t122 = (-3) && (t123 == 2)) = true := by simpa using c12)); (try (have c12b2 : (t122 == (-3) && (t123 == 2)) = true := by simpa using c12)); clear c12
   by_cases c13 : t130 = 0
   ·rw [if_pos c13] at H; have c13b0 : (t130 == 0) = true := beq_iff_eq.mpr c13; have c13b1 : (t130 != 0) = false := bne_eq_false_iff_eq.mpr c13; clear c13
    by_cases c14 : (t129.length : Int) = 3
    ·rw [if_pos c14] at H; have c14b0 : ((t129.length : Int) == 3) = true := beq_iff_eq.mpr c14; have c14b1 : ((t129.length : Int) != 3) = false := bne_eq_false_iff_eq.mpr c14; clear c14
     by_cases c15 : 0 < (t129.length : Int)
     ·rw [if_pos c15] at H; have c15b0 : decide (0 < (t129.length : Int)) = true := decide_eq_true c15; have c15b1 : decide (0 < t129.length) = true := decide_eq_true (by omega); clear c15
      by_cases c16 : (rd t129 0) = 2
      ·rw [if_pos c16] at H; have c16b0 : ((rd t129 0) == 2) = true := beq_iff_eq.mpr c16; have c16b1 : ((rd t129 0) != 2) = false := bne_eq_false_iff_eq.mpr c16; clear c16
       by_cases c17 : 1 < (t129.length : Int)
       ·rw [if_pos c17] at H; have c17b0 : decide (1 < (t129.length : Int)) = true := decide_eq_true c17; have c17b1 : decide (1 < t129.length) = true := decide_eq_true (by omega); clear c17
        by_cases c18 : (rd t129 1) = 1
        ·rw [if_pos c18] at H; have c18b0 : ((rd t129 1) == 1) = true := beq_iff_eq.mpr c18; have c18b1 : ((rd t129 1) != 1) = false := bne_eq_false_iff_eq.mpr c18; clear c18
         by_cases c19 : 2 < (t129.length : Int)
         ·rw [if_pos c19] at H; have c19b0 : decide (2 < (t129.length : Int)) = true := decide_eq_true c19; have c19b1 : decide (2 < t129.length) = true := decide_eq_true (by omega); clear c19; obtain rfl := Option.some.inj H; have hcz20_0 : w10.cell? ⟨gb125, 0, none⟩ = some (.int .i64 t122) := bc BK125 0; have hcz20_1 : w10.cell? ⟨gb125, 1, none⟩ = some (.int .i64 t123) := bc BK125 1; have hfz20_0 := blk_frozen BK125.out 0; have hfz20_1 := blk_frozen BK125.out 1; obtain ⟨Ao21, co21, eo21⟩ := Kd.R_slice HO132.out; subst eo21; have p133 : 0 ≤ (0 : Int) := (by omega); have q133 : 0 < (t129.length : Int) := of_decide_eq_true (by first | (with_reducible assumption) | assumption); obtain ⟨ad133, e133, hx133_0⟩ := Kd.at_int (Kd.R_reads' HO132.out).2.2 0 p133 q133
          cases e133
          have qi133 : (0 < t129.length) = True := eq_true (by omega); (try rw [show ((0 : Int)).toNat = 0 from rfl] at hx133_0); (try rw [Addr.add_zero'] at hx133_0); replace p133 := eq_true p133; replace q133 := eq_true q133; have p134 : 0 ≤ (1 : Int) := (by omega); have q134 : 1 < (t129.length : Int) := of_decide_eq_true (by first | (with_reducible assumption) | assumption); obtain ⟨ad134, e134, hx134_0⟩ := Kd.at_int (Kd.R_reads' HO132.out).2.2 1 p134 q134; obtain rfl : ad133 = ad134 := (by injection e134); (try simp only [show (1 : Int).toNat = 1 from rfl, Nat.reduceMul, Nat.reduceEqDiff, Go.Addr.add, ↓reduceIte] at hx134_0); have qi134 : (1 < t129.length) = True := eq_true (by omega); (try rw [show ((1 : Int)).toNat = 1 from rfl] at hx134_0); replace p134 := eq_true p134; replace q134 := eq_true q134; have p135 : 0 ≤ (2 : Int) := (by omega); have q135 : 2 < (t129.length : Int) := of_decide_eq_true (by first | (with_reducible assumption) | assumption); obtain ⟨ad135, e135, hx135_0⟩ := Kd.at_int (Kd.R_reads' HO132.out).2.2 2 p135 q135; obtain rfl : ad133 = ad135 := (by injection e135); (try simp only [show (2 : Int).toNat = 2 from rfl, Nat.reduceMul, Nat.reduceEqDiff, Go.Addr.add, ↓reduceIte] at hx135_0); have qi135 : (2 < t129.length) = True := eq_true (by omega); (try rw [show ((2 : Int)).toNat = 2 from rfl] at hx135_0); replace p135 := eq_true p135; replace q135 := eq_true q135; (go_wp2); (go_ret); exact ⟨by first | rfl | (simp [errW_none, errW_some] <;> rfl) | (simp [*, errW_none, errW_some] <;> rfl), bw HB⟩
         ·rw [if_neg c19] at H; exact absurd H (by simp)
        ·rw [if_neg c18] at H; have c18b0 : ((rd t129 1) == 1) = false := beq_eq_false_iff_ne.mpr c18; have c18b1 : ((rd t129 1) != 1) = true := bne_iff_ne.mpr c18; obtain rfl := Option.some.inj H; have hcz22_0 : w10.cell? ⟨gb125, 0, none⟩ = some (.int .i64 t122) := bc BK125 0; have hcz22_1 : w10.cell? ⟨gb125, 1, none⟩ = some (.int .i64 t123) := bc BK125 1; have hfz22_0 := blk_frozen BK125.out 0; have hfz22_1 := blk_frozen BK125.out 1; obtain ⟨Ao23, co23, eo23⟩ := Kd.R_slice HO132.out; subst eo23; have p133 : 0 ≤ (0 : Int) := (by omega); have q133 : 0 < (t129.length : Int) := of_decide_eq_true (by first | (with_reducible assumption) | assumption); obtain ⟨ad133, e133, hx133_0⟩ := Kd.at_int (Kd.R_reads' HO132.out).2.2 0 p133 q133
         cases e133
         have qi133 : (0 < t129.length) = True := eq_true (by omega); (try rw [show ((0 : Int)).toNat = 0 from rfl] at hx133_0); (try rw [Addr.add_zero'] at hx133_0); replace p133 := eq_true p133; replace q133 := eq_true q133; have p134 : 0 ≤ (1 : Int) := (by omega); have q134 : 1 < (t129.length : Int) := of_decide_eq_true (by first | (with_reducible assumption) | assumption); obtain ⟨ad134, e134, hx134_0⟩ := Kd.at_int (Kd.R_reads' HO132.out).2.2 1 p134 q134; obtain rfl : ad133 = ad134 := (by injection e134); (try simp only [show (1 : Int).toNat = 1 from rfl, Nat.reduceMul, Nat.reduceEqDiff, Go.Addr.add, ↓reduceIte] at hx134_0); have qi134 : (1 < t129.length) = True := eq_true (by omega); (try rw [show ((1 : Int)).toNat = 1 from rfl] at hx134_0); replace p134 := eq_true p134; replace q134 := eq_true q134; (go_wp2); (go_ret); exact ⟨by first | rfl | (simp [errW_none, errW_some] <;> rfl) | (simp [*, errW_none, errW_some] <;> rfl), bw HB⟩
       ·rw [if_neg c17] at H; exact absurd H (by simp)
      ·rw [if_neg c16] at H; have c16b0 : ((rd t129 0) == 2) = false := beq_eq_false_iff_ne.mpr c16; have c16b1 : ((rd t129 0) != 2) = true := bne_iff_ne.mpr c16; obtain rfl := Option.some.inj H; have hcz24_0 : w10.cell? ⟨gb125, 0, none⟩ = some (.int .i64 t122) := bc BK125 0; have hcz24_1 : w10.cell? ⟨gb125, 1, none⟩ = some (.int .i64 t123) := bc BK125 1; have hfz24_0 := blk_frozen BK125.out 0; have hfz24_1 := blk_frozen BK125.out 1; obtain ⟨Ao25, co25, eo25⟩ := Kd.R_slice HO132.out; subst eo25; have p133 : 0 ≤ (0 : Int) := (by omega); have q133 : 0 < (t129.length : Int) := of_decide_eq_true (by first | (with_reducible assumption) | assumption); obtain ⟨ad133, e133, hx133_0⟩ := Kd.at_int (Kd.R_reads' HO132.out).2.2 0 p133 q133
       cases e133
       have qi133 : (0 < t129.length) = True := eq_true (by omega); (try rw [show ((0 : Int)).toNat = 0 from rfl] at hx133_0); (try rw [Addr.add_zero'] at hx133_0); replace p133 := eq_true p133; replace q133 := eq_true q133; (go_wp2); (go_ret); exact ⟨by first | rfl | (simp [errW_none, errW_some] <;> rfl) | (simp [*, errW_none, errW_some] <;> rfl), bw HB⟩
     ·rw [if_neg c15] at H; exact absurd H (by simp)
    ·rw [if_neg c14] at H; have c14b0 : ((t129.length : Int) == 3) = false := beq_eq_false_iff_ne.mpr c14; have c14b1 : ((t129.length : Int) != 3) = true := bne_iff_ne.mpr c14; obtain rfl := Option.some.inj H; have hcz26_0 : w10.cell? ⟨gb125, 0, none⟩ = some (.int .i64 t122) := bc BK125 0; have hcz26_1 : w10.cell? ⟨gb125, 1, none⟩ = some (.int .i64 t123) := bc BK125 1; have hfz26_0 := blk_frozen BK125.out 0; have hfz26_1 := blk_frozen BK125.out 1; obtain ⟨Ao27, co27, eo27⟩ := Kd.R_slice HO132.out; subst eo27; (go_wp2); (go_ret); exact ⟨by first | rfl | (simp [errW_none, errW_some] <;> rfl) | (simp [*, errW_none, errW_some] <;> rfl), bw HB⟩
   ·rw [if_neg c13] at H; have c13b0 : (t130 == 0) = false := beq_eq_false_iff_ne.mpr c13; have c13b1 : (t130 != 0) = true := bne_iff_ne.mpr c13; obtain rfl := Option.some.inj H; have hcz28_0 : w10.cell? ⟨gb125, 0, none⟩ = some (.int .i64 t122) := bc BK125 0; have hcz28_1 : w10.cell? ⟨gb125, 1, none⟩ = some (.int .i64 t123) := bc BK125 1; have hfz28_0 := blk_frozen BK125.out 0; have hfz28_1 := blk_frozen BK125.out 1; (go_wp2); (go_ret); exact ⟨by first | rfl | (simp [errW_none, errW_some] <;> rfl) | (simp [*, errW_none, errW_some] <;> rfl), bw HB⟩
  ·rw [if_neg c12] at H; (have c12b0 : (t122 == (-3) && (t123 == 2)) = false := by simpa using c12); (try (have c12b1 : decide (t122 = (-3) && (t123 == 2)) = false := by simpa using c12)); (try (have c12b2 : (t122 == (-3) && (t123 == 2)) = false := by simpa using c12)); (try (have c12b3 : ¬ (t122 = (-3) && (t123 == 2)) := by simpa using c12)); clear c12; obtain rfl := Option.some.inj H; have hcz29_0 : w10.cell? ⟨gb125, 0, none⟩ = some (.int .i64 t122) := bc BK125 0; have hcz29_1 : w10.cell? ⟨gb125, 1, none⟩ = some (.int .i64 t123) := bc BK125 1; have hfz29_0 := blk_frozen BK125.out 0; have hfz29_1 := blk_frozen BK125.out 1; (go_wp2); (go_ret); exact ⟨by first | rfl | (simp [errW_none, errW_some] <;> rfl) | (simp [*, errW_none, errW_some] <;> rfl), bw HB⟩
 ·rw [if_neg c11] at H; have c11b0 : (t124 == 0) = false := beq_eq_false_iff_ne.mpr c11; have c11b1 : (t124 != 0) = true := bne_iff_ne.mpr c11
  (first | rw [c11b0] | (simp only [i64_w, i32_w]; rw [c11b0]) | skip)
  obtain rfl := Option.some.inj H; (go_wp2); (go_ret); exact ⟨by first | rfl | (simp [errW_none, errW_some] <;> rfl) | (simp [*, errW_none, errW_some] <;> rfl), bw HB⟩

end Go.Proofs.YtbapkiclgkddcaaDoor.G

-- Printed by gp.py (a program of this session's own, over the kit's printer) out of the translation; Lean checks it.
namespace Go.Proofs.YtbapkiclgkddcaaDoor.G
open Go.Proofs.YtbapkiclgkddcaaDoor.Given Go.Proofs.YtbapkiclgkddcaaDoor.Short
open Go.RowKit Go.Proofs.YtbapkiclgkddcaaDoorW.PrintWords Go.Proofs.YtbapkiclgkddcaaDoorW.PrintLast Go.Proofs.YtbapkiclgkddcaaDoorW.PrintMore
attribute [local go_sem] max2_int min2_int max_two min_two max_three min_three max_four min_four   -- for this text's walks alone
set_option linter.unusedVariables false
set_option linter.unusedSimpArgs false

/-! ### r1_Product: function 50 -/
def r1_Product.f (a0 : Int) (a1 : Int) : Option (Int × Int) := (bits_Mul64.f a0 a1).bind fun bt194 => (some (bt194.1, bt194.2))
set_option maxHeartbeats 8000000 in
set_option maxRecDepth 100000 in
theorem r1_Product.calls (a0 : Int) (a1 : Int) (r1 : Int) (r2 : Int) (w : World) (h : r1_Product.f a0 a1 = some (r1, r2)) :
  Calls Tryd.prog 50 #[.int .u64 a0, .int .u64 a1] w fun e w' => e = .returned (.agg #[.int .u64 r1, .int .u64 r2]) ∧ Below w.heap.size w w' := by
 have hu65 := Tryd.underlying65; have HB := Aside0.mk (Below.refl w.heap.size w); have H : ((bits_Mul64.f a0 a1).bind fun bt194 => (some (bt194.1, bt194.2))) = some (r1, r2) := h; clear h; replace H := Option.bind_eq_some_iff.mp H; obtain ⟨⟨t194, t195⟩, A30, H⟩ := H; (try dsimp only at H); have A3 := Aside0.mk A30; clear A30; simp only [Option.some.injEq, Prod.mk.injEq] at H; obtain ⟨rfl, rfl⟩ := H; (go_enter Tryd.func50, Tryd.ntmps50); (go_wp2_with (first | ((with_reducible refine gate_dst (N := 4) rfl ?_); refine bx (N := 4) (cs := #[.int .u64 0, .int .u64 0]) (t := 65) ?_; intro gb193 hg w4 hbox hb; have BK193 := Aside0.mk (hbox); have GW193 := gs HB hg; have GE193 := gs HB hg; replace HB := wb HB hb; clear hb hbox hg) | ((with_reducible refine gate_callee (f := 45) rfl ?_); refine gl (some 10) Tryd.func45 #[.int .u64 a0, .int .u64 a1] ?_; (with_reducible refine (bits_Mul64.calls a0 a1 t194 t195 _ A3.out).mono ?_); rintro e w' ⟨rfl, ⟨nd, rfl⟩⟩; refine ⟨_, rfl, ?_⟩; (try (rw [drewN_self w4]; generalize hq_ : World.drewN w4 _ = w4; replace BK193 : Aside0 (w4.heap[gb193]? = some (.cells #[.int .u64 0, .int .u64 0] 65 (0, 0))) := ⟨by rw [← hq_]; exact (bq BK193)⟩; replace HB : Aside0 (Below w.heap.size w w4) := ⟨by rw [← hq_]; exact (bw HB)⟩; clear hq_)); have hcz5_0 : w4.cell? ⟨gb193, 0, none⟩ = some (.int .u64 0) := bc BK193 0; have hcz5_1 : w4.cell? ⟨gb193, 1, none⟩ = some (.int .u64 0) := bc BK193 1; have hfz5_0 := blk_frozen BK193.out 0; have hfz5_1 := blk_frozen BK193.out 1))); refine bodyPost_ret (results_cell_row rfl _ _ gb193 65 #[.int .u64 t194, .int .u64 t195] (0, 0) _ rfl (by refine pe ?_; refine blk_put (cs := #[.int .u64 t194, .int .u64 0]) ?_ 1 _ rfl; refine pe ?_; refine blk_put (cs := #[.int .u64 0, .int .u64 0]) ?_ 0 _ rfl; refine pe ?_; exact BK193.out) Tryd.underlying65 rfl (by kernel_rfl)) rfl ?_; exact ⟨by first | rfl | (simp [errW_none, errW_some] <;> rfl) | (simp [*, errW_none, errW_some] <;> rfl), bw HB⟩

end Go.Proofs.YtbapkiclgkddcaaDoor.G

-- Printed by gp.py (a program of this session's own, over the kit's printer) out of the translation; Lean checks it.
namespace Go.Proofs.YtbapkiclgkddcaaDoor.G
open Go.Proofs.YtbapkiclgkddcaaDoor.Given Go.Proofs.YtbapkiclgkddcaaDoor.Short
open Go.RowKit Go.Proofs.YtbapkiclgkddcaaDoorW.PrintWords Go.Proofs.YtbapkiclgkddcaaDoorW.PrintLast Go.Proofs.YtbapkiclgkddcaaDoorW.PrintMore
attribute [local go_sem] max2_int min2_int max_two min_two max_three min_three max_four min_four   -- for this text's walks alone
set_option linter.unusedVariables false
set_option linter.unusedSimpArgs false

/-! ### r1_Plus: function 53 -/
def r1_Plus.f (a0_0 : Int) (a0_1 : Int) (a1_0 : Int) (a1_1 : Int) : Option (Int × Int) := (bits_Add64.f a0_1 a1_1 0).bind fun bt199 => ((bits_Add64.f a0_0 a1_0 bt199.2).bind fun bt201 => (some (bt201.1, bt199.1)))
set_option maxHeartbeats 8000000 in
set_option maxRecDepth 100000 in
theorem r1_Plus.calls (a0_0 : Int) (a0_1 : Int) (a1_0 : Int) (a1_1 : Int) (r1 : Int) (r2 : Int) (w : World) (h : r1_Plus.f a0_0 a0_1 a1_0 a1_1 = some (r1, r2)) :
  Calls Tryd.prog 53 #[.agg #[.int .u64 a0_0, .int .u64 a0_1], .agg #[.int .u64 a1_0, .int .u64 a1_1]] w fun e w' => e = .returned (.agg #[.int .u64 r1, .int .u64 r2]) ∧ Below w.heap.size w w' := by
 have hu65 := Tryd.underlying65; have HB := Aside0.mk (Below.refl w.heap.size w); have H : ((bits_Add64.f a0_1 a1_1 0).bind fun bt199 => ((bits_Add64.f a0_0 a1_0 bt199.2).bind fun bt201 => (some (bt201.1, bt199.1)))) = some (r1, r2) := h; clear h; replace H := Option.bind_eq_some_iff.mp H; obtain ⟨⟨t199, t200⟩, A30, H⟩ := H; (try dsimp only at H); have A3 := Aside0.mk A30; clear A30; replace H := Option.bind_eq_some_iff.mp H; obtain ⟨⟨t201, t202⟩, A40, H⟩ := H; (try dsimp only at H); have A4 := Aside0.mk A40; clear A40; simp only [Option.some.injEq, Prod.mk.injEq] at H; obtain ⟨rfl, rfl⟩ := H; (go_enter Tryd.func53, Tryd.ntmps53); (go_wp2_with (first | ((with_reducible refine gate_dst (N := 2) rfl ?_); refine bx (N := 2) (cs := #[.int .u64 a0_0, .int .u64 a0_1]) (t := 65) ?_; intro gb196 hg w5 hbox hb; have BK196 := Aside0.mk (hbox); have GW196 := gs HB hg; have GE196 := gs HB hg; replace HB := wb HB hb; clear hb hbox hg) | ((with_reducible refine gate_dst (N := 3) rfl ?_); refine bx (N := 3) (cs := #[.int .u64 a1_0, .int .u64 a1_1]) (t := 65) ?_; intro gb197 hg w6 hbox hb; have BK197 := Aside0.mk (hbox); have GW197 := gs HB hg; have GE197 := gs HB hg; have NB196_197 := nl BK196 hg; have NB197_196 := nr BK196 hg; replace BK196 := kb BK196 hb; replace HB := wb HB hb; clear hb hbox hg) | ((with_reducible refine gate_dst (N := 4) rfl ?_); refine bx (N := 4) (cs := #[.int .u64 0, .int .u64 0]) (t := 65) ?_; intro gb198 hg w7 hbox hb; have BK198 := Aside0.mk (hbox); have GW198 := gs HB hg; have GE198 := gs HB hg; have NB196_198 := nl BK196 hg; have NB198_196 := nr BK196 hg; have NB197_198 := nl BK197 hg; have NB198_197 := nr BK197 hg; replace BK196 := kb BK196 hb; replace BK197 := kb BK197 hb; replace HB := wb HB hb; clear hb hbox hg; obtain ⟨hnb8, hnc8⟩ := n2 NB196_197; obtain ⟨hnb9, hnc9⟩ := n2 NB196_198; have hcz10_0 : w7.cell? ⟨gb196, 0, none⟩ = some (.int .u64 a0_0) := bc BK196 0; have hcz10_1 : w7.cell? ⟨gb196, 1, none⟩ = some (.int .u64 a0_1) := bc BK196 1; have hfz10_0 := blk_frozen BK196.out 0; have hfz10_1 := blk_frozen BK196.out 1; obtain ⟨hnb11, hnc11⟩ := n2 NB197_198; have hcz12_0 : w7.cell? ⟨gb197, 0, none⟩ = some (.int .u64 a1_0) := bc BK197 0; have hcz12_1 : w7.cell? ⟨gb197, 1, none⟩ = some (.int .u64 a1_1) := bc BK197 1; have hfz12_0 := blk_frozen BK197.out 0; have hfz12_1 := blk_frozen BK197.out 1) | ((with_reducible refine gate_callee (f := 76) rfl ?_); refine gx (some 14) Tryd.func76 #[.int .u64 a0_1, .int .u64 a1_1, .int .u64 0] ?_; (with_reducible refine (bits_Add64.calls a0_1 a1_1 0 t199 t200 _ A3.out).mono ?_); rintro e w13 ⟨rfl, hb⟩; refine ⟨_, rfl, ?_⟩; replace BK196 := kb BK196 hb; replace BK197 := kb BK197 hb; replace BK198 := kb BK198 hb; replace HB := wb HB hb; (try clear hb); (try clear hb2); (try clear hk); (try clear hi); have hcz14_0 : w13.cell? ⟨gb196, 0, none⟩ = some (.int .u64 a0_0) := bc BK196 0; have hcz14_1 : w13.cell? ⟨gb196, 1, none⟩ = some (.int .u64 a0_1) := bc BK196 1; have hfz14_0 := blk_frozen BK196.out 0; have hfz14_1 := blk_frozen BK196.out 1; have hcz15_0 : w13.cell? ⟨gb197, 0, none⟩ = some (.int .u64 a1_0) := bc BK197 0; have hcz15_1 : w13.cell? ⟨gb197, 1, none⟩ = some (.int .u64 a1_1) := bc BK197 1; have hfz15_0 := blk_frozen BK197.out 0; have hfz15_1 := blk_frozen BK197.out 1) | ((with_reducible refine gate_callee (f := 76) rfl ?_); refine gx (some 23) Tryd.func76 #[.int .u64 a0_0, .int .u64 a1_0, .int .u64 t200] ?_; (with_reducible refine (bits_Add64.calls a0_0 a1_0 t200 t201 t202 _ A4.out).mono ?_); rintro e w16 ⟨rfl, hb⟩; refine ⟨_, rfl, ?_⟩; replace BK196 := kb BK196 hb; replace BK197 := kb BK197 hb; replace BK198 := kb BK198 hb; replace HB := wb HB hb; (try clear hb); (try clear hb2); (try clear hk); (try clear hi); have hcz17_0 : w16.cell? ⟨gb198, 0, none⟩ = some (.int .u64 0) := bc BK198 0; have hcz17_1 : w16.cell? ⟨gb198, 1, none⟩ = some (.int .u64 0) := bc BK198 1; have hfz17_0 := blk_frozen BK198.out 0; have hfz17_1 := blk_frozen BK198.out 1))); refine bodyPost_ret (results_cell_row rfl _ _ gb198 65 #[.int .u64 t201, .int .u64 t199] (0, 0) _ rfl (by refine pe ?_; refine blk_put (cs := #[.int .u64 t201, .int .u64 0]) ?_ 1 _ rfl; refine pe ?_; refine blk_put (cs := #[.int .u64 0, .int .u64 0]) ?_ 0 _ rfl; refine pe ?_; exact BK198.out) Tryd.underlying65 rfl (by kernel_rfl)) rfl ?_; exact ⟨by first | rfl | (simp [errW_none, errW_some] <;> rfl) | (simp [*, errW_none, errW_some] <;> rfl), bw HB⟩

end Go.Proofs.YtbapkiclgkddcaaDoor.G

-- Printed by gp.py (a program of this session's own, over the kit's printer) out of the translation; Lean checks it.
namespace Go.Proofs.YtbapkiclgkddcaaDoor.G
open Go.Proofs.YtbapkiclgkddcaaDoor.Given Go.Proofs.YtbapkiclgkddcaaDoor.Short
open Go.RowKit Go.Proofs.YtbapkiclgkddcaaDoorW.PrintWords Go.Proofs.YtbapkiclgkddcaaDoorW.PrintLast Go.Proofs.YtbapkiclgkddcaaDoorW.PrintMore
attribute [local go_sem] max2_int min2_int max_two min_two max_three min_three max_four min_four   -- for this text's walks alone
set_option linter.unusedVariables false
set_option linter.unusedSimpArgs false

/-! ### r1_index: function 60 -/
def r1_index.l0 : Nat → ByteArray → Int → Int → Option (Int)
 | 0, _, _, _ => none
 | k + 1, x0, x1, x5 => if x5 < (x0.size : Int) then (if 0 ≤ x5 then (if (bt x0 x5) = x1 then (some x5) else (r1_index.l0 k x0 x1 (wrap64 (x5 + 1)))) else (none)) else (some (-1))
def r1_index.f (k : Nat) (a0 : ByteArray) (a1 : Int) : Option (Int) := r1_index.l0 k a0 a1 0
theorem r1_index.mono_l : ∀ k, (∀ y0 y1 y2, LeO (r1_index.l0 k y0 y1 y2) (r1_index.l0 (k + 1) y0 y1 y2))
 | 0 => fun _ _ _ r h => by simp [r1_index.l0] at h
 | k + 1 => by
  have ih0 := r1_index.mono_l k
  ·intro y0 y1 y2; unfold r1_index.l0
   repeat' first
   | (with_reducible exact ih0 _ _ _)
   | (with_reducible exact LeO.refl _)
   | (with_reducible exact LeO.none _)
   | (with_reducible refine LeO.ite ?_ ?_)
   | (with_reducible refine LeO.bind ?_ (fun _ => ?_))
   | exact ih0 _ _ _
   | exact LeO.none _
   | refine LeO.ite ?_ ?_
   | refine LeO.bind ?_ (fun _ => ?_)
theorem r1_index.mono : ∀ a0 a1 k, LeO (r1_index.f k a0 a1) (r1_index.f (k + 1) a0 a1) := by
 intro a0 a1 k; have ih0 := r1_index.mono_l k; unfold r1_index.f
 repeat' first
   | (with_reducible exact ih0 _ _ _)
   | (with_reducible exact LeO.refl _)
   | (with_reducible exact LeO.none _)
   | (with_reducible refine LeO.ite ?_ ?_)
   | (with_reducible refine LeO.bind ?_ (fun _ => ?_))
   | exact ih0 _ _ _
   | exact LeO.none _
   | refine LeO.ite ?_ ?_
   | refine LeO.bind ?_ (fun _ => ?_)
set_option maxHeartbeats 8000000 in
set_option maxRecDepth 100000 in
theorem r1_index.calls (k : Nat) (a0 : ByteArray) (a1 : Int) (r : Int) (w : World) (h : r1_index.f k a0 a1 = some r) :
  Calls Tryd.prog 60 #[.string a0, .int .u8 a1] w fun e w' => e = .returned (.int .i64 r) ∧ Drawn0 w w' := by
 have H : (r1_index.l0 k a0 a1 0) = some r := h; clear h; have H' := Aside0.mk H; clear H; (go_enter Tryd.func60, Tryd.ntmps60); (go_wp2); (try simp only [Act.put, List.setIfInBounds_toArray, List.set_cons_zero, List.set_cons_succ])
 go_loopg [5] k (fun kq v5 w' => ∃ (x5_1 : Int), v5 = .int .i64 x5_1 ∧ Aside0 (r1_index.l0 kq a0 a1 x5_1 = some r) ∧ Aside0 (kq ≤ k) ∧ Drawn0 w w')
 case atStart => exact ⟨(0), (by first | rfl | (simp; done) | (simp [*]; done)), H', ⟨Nat.le_refl _⟩, by repeat (first | exact Drawn0.refl _ | apply Drawn0.step)⟩
 case round =>
  clear H'; (try clear p2); obtain ⟨x5_1, rfl, HA, HK1, ⟨m1, rfl⟩⟩ := hrel
  cases gk with
  | zero => exact absurd HA.out (by simp [r1_index.l0])
  | succ k1 =>
   have H := HA.out; clear HA; simp only [r1_index.l0] at H
   by_cases c3 : x5_1 < (a0.size : Int)
   ·rw [if_pos c3] at H; have c3b0 : decide (x5_1 < (a0.size : Int)) = true := decide_eq_true c3; clear c3
    by_cases c4 : 0 ≤ x5_1
    ·rw [if_pos c4] at H; have c4b0 : decide (0 ≤ x5_1) = true := decide_eq_true c4; clear c4
     by_cases c6 : (bt a0 x5_1) = a1
     ·rw [if_pos c6] at H; have c6b0 : ((bt a0 x5_1) == a1) = true := beq_iff_eq.mpr c6; have c6b1 : ((bt a0 x5_1) != a1) = false := bne_eq_false_iff_eq.mpr c6; clear c6; obtain rfl := Option.some.inj H; have p5 : 0 ≤ (x5_1 : Int) := of_decide_eq_true (by first | (with_reducible assumption) | assumption); have q5 : x5_1 < (a0.size : Int) := of_decide_eq_true (by first | (with_reducible assumption) | assumption); have hx5 := bt_at a0 x5_1; replace p5 := eq_true p5; replace q5 := eq_true q5; (go_wp2); (go_ret); exact ⟨by first | rfl | (simp; done) | (simp [*]; done), by repeat (first | exact Drawn0.refl _ | apply Drawn0.step)⟩
     ·rw [if_neg c6] at H; have c6b0 : ((bt a0 x5_1) == a1) = false := beq_eq_false_iff_ne.mpr c6; have c6b1 : ((bt a0 x5_1) != a1) = true := bne_iff_ne.mpr c6; have H' := Aside0.mk H; clear H; have p5 : 0 ≤ (x5_1 : Int) := of_decide_eq_true (by first | (with_reducible assumption) | assumption); have q5 : x5_1 < (a0.size : Int) := of_decide_eq_true (by first | (with_reducible assumption) | assumption); have hx5 := bt_at a0 x5_1; replace p5 := eq_true p5; replace q5 := eq_true q5; go_wp2
      go_roundg k1
      case measure => have := HK1.out; omega
      case rel => exact ⟨(wrap64 (x5_1 + 1)), (by first | rfl | (simp; done) | (simp [*]; done)), H', ⟨by have := HK1.out; omega⟩, by repeat (first | exact Drawn0.refl _ | apply Drawn0.step)⟩
    ·rw [if_neg c4] at H; exact absurd H (by simp)
   ·rw [if_neg c3] at H; have c3b0 : decide (x5_1 < (a0.size : Int)) = false := decide_eq_false c3; clear c3; obtain rfl := Option.some.inj H; (go_wp2); (go_ret); exact ⟨by first | rfl | (simp; done) | (simp [*]; done), by repeat (first | exact Drawn0.refl _ | apply Drawn0.step)⟩

end Go.Proofs.YtbapkiclgkddcaaDoor.G

-- Printed by gp.py (a program of this session's own, over the kit's printer) out of the translation; Lean checks it.
namespace Go.Proofs.YtbapkiclgkddcaaDoor.G
open Go.Proofs.YtbapkiclgkddcaaDoor.Given Go.Proofs.YtbapkiclgkddcaaDoor.Short
open Go.RowKit Go.Proofs.YtbapkiclgkddcaaDoorW.PrintWords Go.Proofs.YtbapkiclgkddcaaDoorW.PrintLast Go.Proofs.YtbapkiclgkddcaaDoorW.PrintMore
attribute [local go_sem] max2_int min2_int max_two min_two max_three min_three max_four min_four   -- for this text's walks alone
set_option linter.unusedVariables false
set_option linter.unusedSimpArgs false

/-! ### r1_number: function 61 -/
mutual
def r1_number.j0 : Nat → ByteArray → Bool → Option (Int × Bool)
 | 0, _, _ => none
 | k + 1, x0, x16 => if x16 = true then (some (0, false)) else (r1_number.l0 k x0 0 0)
def r1_number.l0 : Nat → ByteArray → Int → Int → Option (Int × Bool)
 | 0, _, _, _ => none
 | k + 1, x0, x6, x7 => if x7 < (x0.size : Int) then (if 0 ≤ x7 then (if (bt x0 x7) < 48 then (some (0, false)) else (if (bt x0 x7) > 57 then (some (0, false)) else (r1_number.l0 k x0 (IntKind.u64.wrap ((IntKind.u64.wrap (10 * x6)) + (((bt x0 x7) - 48) % 256))) (wrap64 (x7 + 1))))) else (none)) else (some (x6, true))
end
def r1_number.f (k : Nat) (a0 : ByteArray) (a1 : Int) : Option (Int × Bool) := if (a0.size : Int) < 1 then (r1_number.j0 k a0 true) else (r1_number.j0 k a0 (decide ((a0.size : Int) > a1)))
theorem r1_number.mono_l : ∀ k, (∀ y0 y1, LeO (r1_number.j0 k y0 y1) (r1_number.j0 (k + 1) y0 y1)) ∧ (∀ y0 y1 y2, LeO (r1_number.l0 k y0 y1 y2) (r1_number.l0 (k + 1) y0 y1 y2))
 | 0 => ⟨fun _ _ r h => by simp [r1_number.j0] at h, fun _ _ _ r h => by simp [r1_number.l0] at h⟩
 | k + 1 => by
  obtain ⟨ih0, ih1⟩ := r1_number.mono_l k; refine ⟨?_, ?_⟩
  ·intro y0 y1; unfold r1_number.j0
   repeat' first
   | (with_reducible exact ih0 _ _)
   | (with_reducible exact ih1 _ _ _)
   | (with_reducible exact LeO.refl _)
   | (with_reducible exact LeO.none _)
   | (with_reducible refine LeO.ite ?_ ?_)
   | (with_reducible refine LeO.bind ?_ (fun _ => ?_))
   | exact ih0 _ _
   | exact ih1 _ _ _
   | exact LeO.none _
   | refine LeO.ite ?_ ?_
   | refine LeO.bind ?_ (fun _ => ?_)
  ·intro y0 y1 y2; unfold r1_number.l0
   repeat' first
   | (with_reducible exact ih0 _ _)
   | (with_reducible exact ih1 _ _ _)
   | (with_reducible exact LeO.refl _)
   | (with_reducible exact LeO.none _)
   | (with_reducible refine LeO.ite ?_ ?_)
   | (with_reducible refine LeO.bind ?_ (fun _ => ?_))
   | exact ih0 _ _
   | exact ih1 _ _ _
   | exact LeO.none _
   | refine LeO.ite ?_ ?_
   | refine LeO.bind ?_ (fun _ => ?_)
theorem r1_number.mono : ∀ a0 a1 k, LeO (r1_number.f k a0 a1) (r1_number.f (k + 1) a0 a1) := by
 intro a0 a1 k; obtain ⟨ih0, ih1⟩ := r1_number.mono_l k; unfold r1_number.f
 repeat' first
   | (with_reducible exact ih0 _ _)
   | (with_reducible exact ih1 _ _ _)
   | (with_reducible exact LeO.refl _)
   | (with_reducible exact LeO.none _)
   | (with_reducible refine LeO.ite ?_ ?_)
   | (with_reducible refine LeO.bind ?_ (fun _ => ?_))
   | exact ih0 _ _
   | exact ih1 _ _ _
   | exact LeO.none _
   | refine LeO.ite ?_ ?_
   | refine LeO.bind ?_ (fun _ => ?_)
set_option maxHeartbeats 8000000 in
set_option maxRecDepth 100000 in
theorem r1_number.calls (k : Nat) (a0 : ByteArray) (a1 : Int) (r1 : Int) (r2 : Bool) (w : World) (h : r1_number.f k a0 a1 = some (r1, r2)) :
  Calls Tryd.prog 61 #[.string a0, .int .i64 a1] w fun e w' => e = .returned (.tuple #[.int .u64 r1, .bool r2]) ∧ Drawn0 w w' := by
 have H : (if (a0.size : Int) < 1 then (r1_number.j0 k a0 true) else (r1_number.j0 k a0 (decide ((a0.size : Int) > a1)))) = some (r1, r2) := h; clear h; have HC3 := Aside0.mk H; clear H; go_enter Tryd.func61, Tryd.ntmps61
 go_upto_region 1 with (fail)
 go_cut [16] (fun v16 wc => ∃ (kq : Nat) (x16_2 : Bool), v16 = .bool x16_2 ∧ Aside0 (r1_number.j0 kq a0 x16_2 = some (r1, r2)) ∧ Aside0 (kq ≤ k) ∧ Drawn0 w wc)
 case first =>
  have H := HC3.out; clear HC3
  by_cases c4 : (a0.size : Int) < 1
  ·rw [if_pos c4] at H; have c4b0 : decide ((a0.size : Int) < 1) = true := decide_eq_true c4; have c4b1 : decide (a0.size < 1) = true := decide_eq_true (by omega); clear c4
   (first | rw [c4b0] | (simp only [i64_w, i32_w]; rw [c4b0]) | skip)
   have H' := Aside0.mk H; clear H; go_wp2
   go_meet
   case rel => exact ⟨_, (true), (by first | rfl | (simp; done) | (simp [*]; done)), H', ⟨by first | omega | exact Nat.le_refl _⟩, by repeat (first | exact Drawn0.refl _ | apply Drawn0.step)⟩
  ·rw [if_neg c4] at H; have c4b0 : decide ((a0.size : Int) < 1) = false := decide_eq_false c4; have c4b1 : decide (a0.size < 1) = false := decide_eq_false (by omega); clear c4
   (first | rw [c4b0] | (simp only [i64_w, i32_w]; rw [c4b0]) | skip)
   have H' := Aside0.mk H; clear H; go_wp2
   go_meet
   case rel => exact ⟨_, (decide ((a0.size : Int) > a1)), (by first | rfl | (simp; done) | (simp [*]; done)), H', ⟨by first | omega | exact Nat.le_refl _⟩, by repeat (first | exact Drawn0.refl _ | apply Drawn0.step)⟩
 case rest =>
  clear HC3; (try clear p2); (try clear c4); (try clear c4b0); (try clear c4b1); obtain ⟨kq, x16_2, rfl, HA, HJ2, ⟨mc2, rfl⟩⟩ := hcut
  cases kq with
  | zero => exact absurd HA.out (by simp [r1_number.j0])
  | succ kj2 =>
   have H := HA.out; clear HA; simp only [r1_number.j0] at H
   by_cases c5 : x16_2 = true
   ·subst c5; (have H1 : (some (0, false)) = some (r1, r2) := by rw [if_pos rfl] at H; exact H); clear H; have H := H1; clear H1; simp only [Option.some.injEq, Prod.mk.injEq] at H; obtain ⟨rfl, rfl⟩ := H; go_wp2
    go_ret2
    exact ⟨by first | rfl | (simp; done) | (simp [*]; done), by repeat (first | exact Drawn0.refl _ | apply Drawn0.step)⟩
   ·replace c5 := Bool.eq_false_iff.mpr c5; subst c5; (have H1 : (r1_number.l0 kj2 a0 0 0) = some (r1, r2) := by rw [if_neg (show ¬ (false = true) by decide)] at H; exact H); clear H; have H := H1; clear H1; have H' := Aside0.mk H; clear H; (go_wp2); (try simp only [Act.put, List.setIfInBounds_toArray, List.set_cons_zero, List.set_cons_succ])
    go_loopg [6, 7] kj2 (fun kq v6 v7 w' => ∃ (x6_2 : Int) (x7_2 : Int), v6 = .int .u64 x6_2 ∧ v7 = .int .i64 x7_2 ∧ Aside0 (r1_number.l0 kq a0 x6_2 x7_2 = some (r1, r2)) ∧ Aside0 (kq ≤ kj2) ∧ Drawn0 w w')
    case atStart => exact ⟨(0), (0), (by first | rfl | (simp; done) | (simp [*]; done)), (by first | rfl | (simp; done) | (simp [*]; done)), H', ⟨Nat.le_refl _⟩, by repeat (first | exact Drawn0.refl _ | apply Drawn0.step)⟩
    case round =>
     clear H'; (try clear c2); (try clear p2); (try clear c4); (try clear c4b0); (try clear c4b1); (try clear c5); (try clear p2); obtain ⟨x6_2, x7_2, rfl, rfl, HA, HK2, ⟨m2, rfl⟩⟩ := hrel
     cases gk with
     | zero => exact absurd HA.out (by simp [r1_number.l0])
     | succ k2 =>
      have H := HA.out; clear HA; simp only [r1_number.l0] at H
      by_cases c6 : x7_2 < (a0.size : Int)
      ·rw [if_pos c6] at H; have c6b0 : decide (x7_2 < (a0.size : Int)) = true := decide_eq_true c6; clear c6
       by_cases c7 : 0 ≤ x7_2
       ·rw [if_pos c7] at H; have c7b0 : decide (0 ≤ x7_2) = true := decide_eq_true c7; clear c7
        by_cases c9 : (bt a0 x7_2) < 48
        ·rw [if_pos c9] at H; have c9b0 : decide ((bt a0 x7_2) < 48) = true := decide_eq_true c9; clear c9; simp only [Option.some.injEq, Prod.mk.injEq] at H; obtain ⟨rfl, rfl⟩ := H; have p8 : 0 ≤ (x7_2 : Int) := of_decide_eq_true (by first | (with_reducible assumption) | assumption); have q8 : x7_2 < (a0.size : Int) := of_decide_eq_true (by first | (with_reducible assumption) | assumption); have hx8 := bt_at a0 x7_2; replace p8 := eq_true p8; replace q8 := eq_true q8; go_wp2
         go_ret2
         exact ⟨by first | rfl | (simp; done) | (simp [*]; done), by repeat (first | exact Drawn0.refl _ | apply Drawn0.step)⟩
        ·rw [if_neg c9] at H; have c9b0 : decide ((bt a0 x7_2) < 48) = false := decide_eq_false c9; clear c9
         by_cases c11 : (bt a0 x7_2) > 57
         ·rw [if_pos c11] at H; have c11b0 : decide (57 < (bt a0 x7_2)) = true := decide_eq_true c11; clear c11; simp only [Option.some.injEq, Prod.mk.injEq] at H; obtain ⟨rfl, rfl⟩ := H; have p8 : 0 ≤ (x7_2 : Int) := of_decide_eq_true (by first | (with_reducible assumption) | assumption); have q8 : x7_2 < (a0.size : Int) := of_decide_eq_true (by first | (with_reducible assumption) | assumption); have hx8 := bt_at a0 x7_2; replace p8 := eq_true p8; replace q8 := eq_true q8; have p10 : 0 ≤ (x7_2 : Int) := of_decide_eq_true (by first | (with_reducible assumption) | assumption); have q10 : x7_2 < (a0.size : Int) := of_decide_eq_true (by first | (with_reducible assumption) | assumption); have hx10 := bt_at a0 x7_2; replace p10 := eq_true p10; replace q10 := eq_true q10; go_wp2
          go_ret2
          exact ⟨by first | rfl | (simp; done) | (simp [*]; done), by repeat (first | exact Drawn0.refl _ | apply Drawn0.step)⟩
         ·rw [if_neg c11] at H; have c11b0 : decide (57 < (bt a0 x7_2)) = false := decide_eq_false c11; clear c11; have H' := Aside0.mk H; clear H; have p8 : 0 ≤ (x7_2 : Int) := of_decide_eq_true (by first | (with_reducible assumption) | assumption); have q8 : x7_2 < (a0.size : Int) := of_decide_eq_true (by first | (with_reducible assumption) | assumption); have hx8 := bt_at a0 x7_2; replace p8 := eq_true p8; replace q8 := eq_true q8; have p10 : 0 ≤ (x7_2 : Int) := of_decide_eq_true (by first | (with_reducible assumption) | assumption); have q10 : x7_2 < (a0.size : Int) := of_decide_eq_true (by first | (with_reducible assumption) | assumption); have hx10 := bt_at a0 x7_2; replace p10 := eq_true p10; replace q10 := eq_true q10; have p12 : 0 ≤ (x7_2 : Int) := of_decide_eq_true (by first | (with_reducible assumption) | assumption); have q12 : x7_2 < (a0.size : Int) := of_decide_eq_true (by first | (with_reducible assumption) | assumption); have hx12 := bt_at a0 x7_2; replace p12 := eq_true p12; replace q12 := eq_true q12; go_wp2
          go_roundg k2
          case measure => have := HJ2.out; have := HK2.out; omega
          case rel => exact ⟨(IntKind.u64.wrap ((IntKind.u64.wrap (10 * x6_2)) + (((bt a0 x7_2) - 48) % 256))), (wrap64 (x7_2 + 1)), (by first | rfl | (simp; done) | (simp [*]; done)), (by first | rfl | (simp; done) | (simp [*]; done)), H', ⟨by have := HJ2.out; have := HK2.out; omega⟩, by repeat (first | exact Drawn0.refl _ | apply Drawn0.step)⟩
       ·rw [if_neg c7] at H; exact absurd H (by simp)
      ·rw [if_neg c6] at H; have c6b0 : decide (x7_2 < (a0.size : Int)) = false := decide_eq_false c6; clear c6; simp only [Option.some.injEq, Prod.mk.injEq] at H; obtain ⟨rfl, rfl⟩ := H; go_wp2
       go_ret2
       exact ⟨by first | rfl | (simp; done) | (simp [*]; done), by repeat (first | exact Drawn0.refl _ | apply Drawn0.step)⟩

end Go.Proofs.YtbapkiclgkddcaaDoor.G

-- Printed by gp.py (a program of this session's own, over the kit's printer) out of the translation; Lean checks it.
namespace Go.Proofs.YtbapkiclgkddcaaDoor.G
open Go.Proofs.YtbapkiclgkddcaaDoor.Given Go.Proofs.YtbapkiclgkddcaaDoor.Short
open Go.RowKit Go.Proofs.YtbapkiclgkddcaaDoorW.PrintWords Go.Proofs.YtbapkiclgkddcaaDoorW.PrintLast Go.Proofs.YtbapkiclgkddcaaDoorW.PrintMore
attribute [local go_sem] max2_int min2_int max_two min_two max_three min_three max_four min_four   -- for this text's walks alone
set_option linter.unusedVariables false
set_option linter.unusedSimpArgs false

attribute [local go_sem high] eqA65
/-! ### r1_Order: function 51 -/
def r1_Order.j0 : Nat → Bool → Int → Int → Int → Int → Option (Int)
 | 0, _, _, _, _, _ => none
 | k + 1, x23, x204000, x204001, x205000, x205001 => if x23 = true then (some (-1)) else (if (x204000 == x205000 && (x204001 == x205001)) = true then (some 0) else (some 1))
def r1_Order.f (k : Nat) (a0_0 : Int) (a0_1 : Int) (a1_0 : Int) (a1_1 : Int) : Option (Int) := if a0_0 < a1_0 then (r1_Order.j0 k true a0_0 a0_1 a1_0 a1_1) else (if a0_0 = a1_0 then (r1_Order.j0 k (decide (a0_1 < a1_1)) a0_0 a0_1 a1_0 a1_1) else (r1_Order.j0 k false a0_0 a0_1 a1_0 a1_1))
theorem r1_Order.mono_l : ∀ k, (∀ y0 y1 y2 y3 y4, LeO (r1_Order.j0 k y0 y1 y2 y3 y4) (r1_Order.j0 (k + 1) y0 y1 y2 y3 y4))
 | 0 => fun _ _ _ _ _ r h => by simp [r1_Order.j0] at h
 | k + 1 => by
  have ih0 := r1_Order.mono_l k
  ·intro y0 y1 y2 y3 y4; unfold r1_Order.j0
   repeat' first
   | (with_reducible exact ih0 _ _ _ _ _)
   | (with_reducible exact LeO.refl _)
   | (with_reducible exact LeO.none _)
   | (with_reducible refine LeO.ite ?_ ?_)
   | (with_reducible refine LeO.bind ?_ (fun _ => ?_))
   | exact ih0 _ _ _ _ _
   | exact LeO.none _
   | refine LeO.ite ?_ ?_
   | refine LeO.bind ?_ (fun _ => ?_)
theorem r1_Order.mono : ∀ a0 a1 a2 a3 k, LeO (r1_Order.f k a0 a1 a2 a3) (r1_Order.f (k + 1) a0 a1 a2 a3) := by
 intro a0 a1 a2 a3 k; have ih0 := r1_Order.mono_l k; unfold r1_Order.f
 repeat' first
   | (with_reducible exact ih0 _ _ _ _ _)
   | (with_reducible exact LeO.refl _)
   | (with_reducible exact LeO.none _)
   | (with_reducible refine LeO.ite ?_ ?_)
   | (with_reducible refine LeO.bind ?_ (fun _ => ?_))
   | exact ih0 _ _ _ _ _
   | exact LeO.none _
   | refine LeO.ite ?_ ?_
   | refine LeO.bind ?_ (fun _ => ?_)
set_option maxHeartbeats 8000000 in
set_option maxRecDepth 100000 in
theorem r1_Order.calls (k : Nat) (a0_0 : Int) (a0_1 : Int) (a1_0 : Int) (a1_1 : Int) (r : Int) (w : World) (h : r1_Order.f k a0_0 a0_1 a1_0 a1_1 = some r) :
  Calls Tryd.prog 51 #[.agg #[.int .u64 a0_0, .int .u64 a0_1], .agg #[.int .u64 a1_0, .int .u64 a1_1]] w fun e w' => e = .returned (.int .i64 r) ∧ Below w.heap.size w w' := by
 have hu65 := Tryd.underlying65; have HB := Aside0.mk (Below.refl w.heap.size w); have H : (if a0_0 < a1_0 then (r1_Order.j0 k true a0_0 a0_1 a1_0 a1_1) else (if a0_0 = a1_0 then (r1_Order.j0 k (decide (a0_1 < a1_1)) a0_0 a0_1 a1_0 a1_1) else (r1_Order.j0 k false a0_0 a0_1 a1_0 a1_1))) = some r := h; clear h; have HC3 := Aside0.mk H; clear H; go_enter Tryd.func51, Tryd.ntmps51
 go_upto_region 1 with (first | ((with_reducible refine gate_dst (N := 2) rfl ?_); refine bx (N := 2) (cs := #[.int .u64 a0_0, .int .u64 a0_1]) (t := 65) ?_; intro gb203 hg w4 hbox hb; have BK203 := Aside0.mk (hbox); have GW203 := gs HB hg; have GE203 := gs HB hg; replace HB := wb HB hb; clear hb hbox hg) | ((with_reducible refine gate_dst (N := 3) rfl ?_); refine bx (N := 3) (cs := #[.int .u64 a1_0, .int .u64 a1_1]) (t := 65) ?_; intro gb204 hg w5 hbox hb; have BK204 := Aside0.mk (hbox); have GW204 := gs HB hg; have GE204 := gs HB hg; have NB203_204 := nl BK203 hg; have NB204_203 := nr BK203 hg; replace BK203 := kb BK203 hb; replace HB := wb HB hb; clear hb hbox hg))
 (try simp only [Act.put, List.setIfInBounds_toArray, List.set_cons_zero, List.set_cons_succ])
 go_cut [23] (fun v23 wc => ∃ (kq : Nat) (x23_2 : Bool), v23 = .bool x23_2 ∧ Aside0 (r1_Order.j0 kq x23_2 a0_0 a0_1 a1_0 a1_1 = some r) ∧ Aside0 (kq ≤ k) ∧ Aside0 (wc.heap[gb203]? = some (.cells #[.int .u64 a0_0, .int .u64 a0_1] 65 (0, 0))) ∧ Aside0 (wc.heap[gb204]? = some (.cells #[.int .u64 a1_0, .int .u64 a1_1] 65 (0, 0))) ∧ Aside0 (Below w.heap.size w wc))
 case first =>
  have H := HC3.out; clear HC3
  by_cases c6 : a0_0 < a1_0
  ·rw [if_pos c6] at H; have c6b0 : decide (a0_0 < a1_0) = true := decide_eq_true c6; clear c6
   (first | rw [c6b0] | (simp only [i64_w, i32_w]; rw [c6b0]) | skip)
   have H' := Aside0.mk H; clear H; obtain ⟨hnb7, hnc7⟩ := n2 NB203_204; have hcz8_0 : w5.cell? ⟨gb203, 0, none⟩ = some (.int .u64 a0_0) := bc BK203 0; have hcz8_1 : w5.cell? ⟨gb203, 1, none⟩ = some (.int .u64 a0_1) := bc BK203 1; have hfz8_0 := blk_frozen BK203.out 0; have hfz8_1 := blk_frozen BK203.out 1; have hcz9_0 : w5.cell? ⟨gb204, 0, none⟩ = some (.int .u64 a1_0) := bc BK204 0; have hcz9_1 : w5.cell? ⟨gb204, 1, none⟩ = some (.int .u64 a1_1) := bc BK204 1; have hfz9_0 := blk_frozen BK204.out 0; have hfz9_1 := blk_frozen BK204.out 1; go_wp2
   go_meet
   case rel => exact ⟨_, (true), (by first | rfl | (simp; done) | (simp [*]; done)), H', ⟨by first | omega | exact Nat.le_refl _⟩, ⟨bq BK203⟩, ⟨bq BK204⟩, ⟨bw HB⟩⟩
  ·rw [if_neg c6] at H; have c6b0 : decide (a0_0 < a1_0) = false := decide_eq_false c6; clear c6
   (first | rw [c6b0] | (simp only [i64_w, i32_w]; rw [c6b0]) | skip)
   by_cases c10 : a0_0 = a1_0
   ·rw [if_pos c10] at H; have c10b0 : (a0_0 == a1_0) = true := beq_iff_eq.mpr c10; have c10b1 : (a0_0 != a1_0) = false := bne_eq_false_iff_eq.mpr c10; clear c10; have H' := Aside0.mk H; clear H; obtain ⟨hnb11, hnc11⟩ := n2 NB203_204; have hcz12_0 : w5.cell? ⟨gb203, 0, none⟩ = some (.int .u64 a0_0) := bc BK203 0; have hcz12_1 : w5.cell? ⟨gb203, 1, none⟩ = some (.int .u64 a0_1) := bc BK203 1; have hfz12_0 := blk_frozen BK203.out 0; have hfz12_1 := blk_frozen BK203.out 1; have hcz13_0 : w5.cell? ⟨gb204, 0, none⟩ = some (.int .u64 a1_0) := bc BK204 0; have hcz13_1 : w5.cell? ⟨gb204, 1, none⟩ = some (.int .u64 a1_1) := bc BK204 1; have hfz13_0 := blk_frozen BK204.out 0; have hfz13_1 := blk_frozen BK204.out 1; go_wp2
    go_meet
    case rel => exact ⟨_, (decide (a0_1 < a1_1)), (by first | rfl | (simp; done) | (simp [*]; done)), H', ⟨by first | omega | exact Nat.le_refl _⟩, ⟨bq BK203⟩, ⟨bq BK204⟩, ⟨bw HB⟩⟩
   ·rw [if_neg c10] at H; have c10b0 : (a0_0 == a1_0) = false := beq_eq_false_iff_ne.mpr c10; have c10b1 : (a0_0 != a1_0) = true := bne_iff_ne.mpr c10; have H' := Aside0.mk H; clear H; obtain ⟨hnb14, hnc14⟩ := n2 NB203_204; have hcz15_0 : w5.cell? ⟨gb203, 0, none⟩ = some (.int .u64 a0_0) := bc BK203 0; have hcz15_1 : w5.cell? ⟨gb203, 1, none⟩ = some (.int .u64 a0_1) := bc BK203 1; have hfz15_0 := blk_frozen BK203.out 0; have hfz15_1 := blk_frozen BK203.out 1; have hcz16_0 : w5.cell? ⟨gb204, 0, none⟩ = some (.int .u64 a1_0) := bc BK204 0; have hcz16_1 : w5.cell? ⟨gb204, 1, none⟩ = some (.int .u64 a1_1) := bc BK204 1; have hfz16_0 := blk_frozen BK204.out 0; have hfz16_1 := blk_frozen BK204.out 1; go_wp2
    go_meet
    case rel => exact ⟨_, (false), (by first | rfl | (simp; done) | (simp [*]; done)), H', ⟨by first | omega | exact Nat.le_refl _⟩, ⟨bq BK203⟩, ⟨bq BK204⟩, ⟨bw HB⟩⟩
 case rest =>
  clear HC3; (try clear c1); (try clear p2); (try clear c5); (try clear c6); (try clear c6b0); (try clear c7); (try clear c10); (try clear c10b0); (try clear c10b1); (try clear c11); (try clear c14); (try clear hcz12_0); (try clear hcz12_1); (try clear hcz13_0); (try clear hcz13_1); (try clear hcz15_0); (try clear hcz15_1); (try clear hcz16_0); (try clear hcz16_1); (try clear hcz8_0); (try clear hcz8_1); (try clear hcz9_0); (try clear hcz9_1); (try clear hfz12_0); (try clear hfz12_1); (try clear hfz13_0); (try clear hfz13_1); (try clear hfz15_0); (try clear hfz15_1); (try clear hfz16_0); (try clear hfz16_1); (try clear hfz8_0); (try clear hfz8_1); (try clear hfz9_0); (try clear hfz9_1); obtain ⟨kq, x23_2, rfl, HA, HJ2, BK203, BK204, HB⟩ := hcut
  cases kq with
  | zero => exact absurd HA.out (by simp [r1_Order.j0])
  | succ kj2 =>
   have H := HA.out; clear HA; simp only [r1_Order.j0] at H
   by_cases c17 : x23_2 = true
   ·subst c17; (have H1 : (some (-1)) = some r := by rw [if_pos rfl] at H; exact H); clear H; have H := H1; clear H1; obtain rfl := Option.some.inj H; (go_wp2); (go_ret); exact ⟨by first | rfl | (simp [errW_none, errW_some] <;> rfl) | (simp [*, errW_none, errW_some] <;> rfl), bw HB⟩
   ·replace c17 := Bool.eq_false_iff.mpr c17; subst c17; (have H1 : (if (a0_0 == a1_0 && (a0_1 == a1_1)) = true then (some 0) else (some 1)) = some r := by rw [if_neg (show ¬ (false = true) by decide)] at H; exact H); clear H; have H := H1; clear H1
    by_cases c18 : (a0_0 == a1_0 && (a0_1 == a1_1)) = true
    ·rw [if_pos c18] at H; have c18b0 : (a0_0 == a1_0 && (a0_1 == a1_1)) = true := c18; (try (have c18b1 : decide (a0_0 = a1_0 && (a0_1 == a1_1)) = true := by simpa using c18)); (try (have c18b2 : (a0_0 == a1_0 && (a0_1 == a1_1)) = true := by simpa using c18)); clear c18; obtain rfl := Option.some.inj H; obtain ⟨hnb19, hnc19⟩ := n2 NB203_204; have hcz20_0 : wc.cell? ⟨gb203, 0, none⟩ = some (.int .u64 a0_0) := bc BK203 0; have hcz20_1 : wc.cell? ⟨gb203, 1, none⟩ = some (.int .u64 a0_1) := bc BK203 1; have hfz20_0 := blk_frozen BK203.out 0; have hfz20_1 := blk_frozen BK203.out 1; have hcz21_0 : wc.cell? ⟨gb204, 0, none⟩ = some (.int .u64 a1_0) := bc BK204 0; have hcz21_1 : wc.cell? ⟨gb204, 1, none⟩ = some (.int .u64 a1_1) := bc BK204 1; have hfz21_0 := blk_frozen BK204.out 0; have hfz21_1 := blk_frozen BK204.out 1; (go_wp2); (go_ret); exact ⟨by first | rfl | (simp [errW_none, errW_some] <;> rfl) | (simp [*, errW_none, errW_some] <;> rfl), bw HB⟩
    ·rw [if_neg c18] at H; (have c18b0 : (a0_0 == a1_0 && (a0_1 == a1_1)) = false := by simpa using c18); (try (have c18b1 : decide (a0_0 = a1_0 && (a0_1 == a1_1)) = false := by simpa using c18)); (try (have c18b2 : (a0_0 == a1_0 && (a0_1 == a1_1)) = false := by simpa using c18)); (try (have c18b3 : ¬ (a0_0 = a1_0 && (a0_1 == a1_1)) := by simpa using c18)); clear c18; obtain rfl := Option.some.inj H; obtain ⟨hnb22, hnc22⟩ := n2 NB203_204; have hcz23_0 : wc.cell? ⟨gb203, 0, none⟩ = some (.int .u64 a0_0) := bc BK203 0; have hcz23_1 : wc.cell? ⟨gb203, 1, none⟩ = some (.int .u64 a0_1) := bc BK203 1; have hfz23_0 := blk_frozen BK203.out 0; have hfz23_1 := blk_frozen BK203.out 1; have hcz24_0 : wc.cell? ⟨gb204, 0, none⟩ = some (.int .u64 a1_0) := bc BK204 0; have hcz24_1 : wc.cell? ⟨gb204, 1, none⟩ = some (.int .u64 a1_1) := bc BK204 1; have hfz24_0 := blk_frozen BK204.out 0; have hfz24_1 := blk_frozen BK204.out 1; (go_wp2); (go_ret); exact ⟨by first | rfl | (simp [errW_none, errW_some] <;> rfl) | (simp [*, errW_none, errW_some] <;> rfl), bw HB⟩

end Go.Proofs.YtbapkiclgkddcaaDoor.G

-- Printed by gp.py (a program of this session's own, over the kit's printer) out of the translation; Lean checks it.
namespace Go.Proofs.YtbapkiclgkddcaaDoor.G
open Go.Proofs.YtbapkiclgkddcaaDoor.Given Go.Proofs.YtbapkiclgkddcaaDoor.Short
open Go.RowKit Go.Proofs.YtbapkiclgkddcaaDoorW.PrintWords Go.Proofs.YtbapkiclgkddcaaDoorW.PrintLast Go.Proofs.YtbapkiclgkddcaaDoorW.PrintMore
attribute [local go_sem] max2_int min2_int max_two min_two max_three min_three max_four min_four   -- for this text's walks alone
set_option linter.unusedVariables false
set_option linter.unusedSimpArgs false

/-! ### r1_Twice: function 52 -/
def r1_Twice.f (a0_0 : Int) (a0_1 : Int) : Option (Int × Int) := some (Go.bits .or .u64 (IntKind.u64.wrap (a0_0 * 2)) (a0_1 / 9223372036854775808), IntKind.u64.wrap (a0_1 * 2))
set_option maxHeartbeats 8000000 in
set_option maxRecDepth 100000 in
theorem r1_Twice.calls (a0_0 : Int) (a0_1 : Int) (r1 : Int) (r2 : Int) (w : World) (h : r1_Twice.f a0_0 a0_1 = some (r1, r2)) :
  Calls Tryd.prog 52 #[.agg #[.int .u64 a0_0, .int .u64 a0_1]] w fun e w' => e = .returned (.agg #[.int .u64 r1, .int .u64 r2]) ∧ Below w.heap.size w w' := by
 have hu65 := Tryd.underlying65; have HB := Aside0.mk (Below.refl w.heap.size w); have H : (some (Go.bits .or .u64 (IntKind.u64.wrap (a0_0 * 2)) (a0_1 / 9223372036854775808), IntKind.u64.wrap (a0_1 * 2))) = some (r1, r2) := h; clear h; simp only [Option.some.injEq, Prod.mk.injEq] at H; obtain ⟨rfl, rfl⟩ := H; (go_enter Tryd.func52, Tryd.ntmps52); (go_wp2_with (first | ((with_reducible refine gate_dst (N := 1) rfl ?_); refine bx (N := 1) (cs := #[.int .u64 a0_0, .int .u64 a0_1]) (t := 65) ?_; intro gb205 hg w2 hbox hb; have BK205 := Aside0.mk (hbox); have GW205 := gs HB hg; have GE205 := gs HB hg; replace HB := wb HB hb; clear hb hbox hg) | ((with_reducible refine gate_dst (N := 2) rfl ?_); refine bx (N := 2) (cs := #[.int .u64 0, .int .u64 0]) (t := 65) ?_; intro gb206 hg w3 hbox hb; have BK206 := Aside0.mk (hbox); have GW206 := gs HB hg; have GE206 := gs HB hg; have NB205_206 := nl BK205 hg; have NB206_205 := nr BK205 hg; replace BK205 := kb BK205 hb; replace HB := wb HB hb; clear hb hbox hg; obtain ⟨hnb4, hnc4⟩ := n2 NB205_206; have hcz5_0 : w3.cell? ⟨gb205, 0, none⟩ = some (.int .u64 a0_0) := bc BK205 0; have hcz5_1 : w3.cell? ⟨gb205, 1, none⟩ = some (.int .u64 a0_1) := bc BK205 1; have hfz5_0 := blk_frozen BK205.out 0; have hfz5_1 := blk_frozen BK205.out 1; have hcz6_0 : w3.cell? ⟨gb206, 0, none⟩ = some (.int .u64 0) := bc BK206 0; have hcz6_1 : w3.cell? ⟨gb206, 1, none⟩ = some (.int .u64 0) := bc BK206 1; have hfz6_0 := blk_frozen BK206.out 0; have hfz6_1 := blk_frozen BK206.out 1))); refine bodyPost_ret (results_cell_row rfl _ _ gb206 65 #[.int .u64 (Go.bits .or .u64 (IntKind.u64.wrap (a0_0 * 2)) (a0_1 / 9223372036854775808)), .int .u64 (IntKind.u64.wrap (a0_1 * 2))] (0, 0) _ rfl (by refine pe ?_; refine blk_put (cs := #[.int .u64 (Go.bits .or .u64 (IntKind.u64.wrap (a0_0 * 2)) (a0_1 / 9223372036854775808)), .int .u64 0]) ?_ 1 _ rfl; refine pe ?_; refine blk_put (cs := #[.int .u64 0, .int .u64 0]) ?_ 0 _ rfl; refine pe ?_; exact BK206.out) Tryd.underlying65 rfl (by kernel_rfl)) rfl ?_; exact ⟨by first | rfl | (simp [errW_none, errW_some] <;> rfl) | (simp [*, errW_none, errW_some] <;> rfl), bw HB⟩

end Go.Proofs.YtbapkiclgkddcaaDoor.G

-- Printed by gp.py (a program of this session's own, over the kit's printer) out of the translation; Lean checks it.
namespace Go.Proofs.YtbapkiclgkddcaaDoor.G
open Go.Proofs.YtbapkiclgkddcaaDoor.Given Go.Proofs.YtbapkiclgkddcaaDoor.Short
open Go.RowKit Go.Proofs.YtbapkiclgkddcaaDoorW.PrintWords Go.Proofs.YtbapkiclgkddcaaDoorW.PrintLast Go.Proofs.YtbapkiclgkddcaaDoorW.PrintMore
attribute [local go_sem] max2_int min2_int max_two min_two max_three min_three max_four min_four   -- for this text's walks alone
set_option linter.unusedVariables false
set_option linter.unusedSimpArgs false

/-! ### r1_Minus: function 75 -/
def r1_Minus.f (a0_0 : Int) (a0_1 : Int) (a1_0 : Int) (a1_1 : Int) : Option (Int × Int) := (bits_Sub64.f a0_1 a1_1 0).bind fun bt210 => ((bits_Sub64.f a0_0 a1_0 bt210.2).bind fun bt212 => (some (bt212.1, bt210.1)))
set_option maxHeartbeats 8000000 in
set_option maxRecDepth 100000 in
theorem r1_Minus.calls (a0_0 : Int) (a0_1 : Int) (a1_0 : Int) (a1_1 : Int) (r1 : Int) (r2 : Int) (w : World) (h : r1_Minus.f a0_0 a0_1 a1_0 a1_1 = some (r1, r2)) :
  Calls Tryd.prog 75 #[.agg #[.int .u64 a0_0, .int .u64 a0_1], .agg #[.int .u64 a1_0, .int .u64 a1_1]] w fun e w' => e = .returned (.agg #[.int .u64 r1, .int .u64 r2]) ∧ Below w.heap.size w w' := by
 have hu65 := Tryd.underlying65; have HB := Aside0.mk (Below.refl w.heap.size w); have H : ((bits_Sub64.f a0_1 a1_1 0).bind fun bt210 => ((bits_Sub64.f a0_0 a1_0 bt210.2).bind fun bt212 => (some (bt212.1, bt210.1)))) = some (r1, r2) := h; clear h; replace H := Option.bind_eq_some_iff.mp H; obtain ⟨⟨t210, t211⟩, A30, H⟩ := H; (try dsimp only at H); have A3 := Aside0.mk A30; clear A30; replace H := Option.bind_eq_some_iff.mp H; obtain ⟨⟨t212, t213⟩, A40, H⟩ := H; (try dsimp only at H); have A4 := Aside0.mk A40; clear A40; simp only [Option.some.injEq, Prod.mk.injEq] at H; obtain ⟨rfl, rfl⟩ := H; (go_enter Tryd.func75, Tryd.ntmps75); (go_wp2_with (first | ((with_reducible refine gate_dst (N := 2) rfl ?_); refine bx (N := 2) (cs := #[.int .u64 a0_0, .int .u64 a0_1]) (t := 65) ?_; intro gb207 hg w5 hbox hb; have BK207 := Aside0.mk (hbox); have GW207 := gs HB hg; have GE207 := gs HB hg; replace HB := wb HB hb; clear hb hbox hg) | ((with_reducible refine gate_dst (N := 3) rfl ?_); refine bx (N := 3) (cs := #[.int .u64 a1_0, .int .u64 a1_1]) (t := 65) ?_; intro gb208 hg w6 hbox hb; have BK208 := Aside0.mk (hbox); have GW208 := gs HB hg; have GE208 := gs HB hg; have NB207_208 := nl BK207 hg; have NB208_207 := nr BK207 hg; replace BK207 := kb BK207 hb; replace HB := wb HB hb; clear hb hbox hg) | ((with_reducible refine gate_dst (N := 4) rfl ?_); refine bx (N := 4) (cs := #[.int .u64 0, .int .u64 0]) (t := 65) ?_; intro gb209 hg w7 hbox hb; have BK209 := Aside0.mk (hbox); have GW209 := gs HB hg; have GE209 := gs HB hg; have NB207_209 := nl BK207 hg; have NB209_207 := nr BK207 hg; have NB208_209 := nl BK208 hg; have NB209_208 := nr BK208 hg; replace BK207 := kb BK207 hb; replace BK208 := kb BK208 hb; replace HB := wb HB hb; clear hb hbox hg; obtain ⟨hnb8, hnc8⟩ := n2 NB207_208; obtain ⟨hnb9, hnc9⟩ := n2 NB207_209; have hcz10_0 : w7.cell? ⟨gb207, 0, none⟩ = some (.int .u64 a0_0) := bc BK207 0; have hcz10_1 : w7.cell? ⟨gb207, 1, none⟩ = some (.int .u64 a0_1) := bc BK207 1; have hfz10_0 := blk_frozen BK207.out 0; have hfz10_1 := blk_frozen BK207.out 1; obtain ⟨hnb11, hnc11⟩ := n2 NB208_209; have hcz12_0 : w7.cell? ⟨gb208, 0, none⟩ = some (.int .u64 a1_0) := bc BK208 0; have hcz12_1 : w7.cell? ⟨gb208, 1, none⟩ = some (.int .u64 a1_1) := bc BK208 1; have hfz12_0 := blk_frozen BK208.out 0; have hfz12_1 := blk_frozen BK208.out 1) | ((with_reducible refine gate_callee (f := 85) rfl ?_); refine gx (some 14) Tryd.func85 #[.int .u64 a0_1, .int .u64 a1_1, .int .u64 0] ?_; (with_reducible refine (bits_Sub64.calls a0_1 a1_1 0 t210 t211 _ A3.out).mono ?_); rintro e w13 ⟨rfl, hb⟩; refine ⟨_, rfl, ?_⟩; replace BK207 := kb BK207 hb; replace BK208 := kb BK208 hb; replace BK209 := kb BK209 hb; replace HB := wb HB hb; (try clear hb); (try clear hb2); (try clear hk); (try clear hi); have hcz14_0 : w13.cell? ⟨gb207, 0, none⟩ = some (.int .u64 a0_0) := bc BK207 0; have hcz14_1 : w13.cell? ⟨gb207, 1, none⟩ = some (.int .u64 a0_1) := bc BK207 1; have hfz14_0 := blk_frozen BK207.out 0; have hfz14_1 := blk_frozen BK207.out 1; have hcz15_0 : w13.cell? ⟨gb208, 0, none⟩ = some (.int .u64 a1_0) := bc BK208 0; have hcz15_1 : w13.cell? ⟨gb208, 1, none⟩ = some (.int .u64 a1_1) := bc BK208 1; have hfz15_0 := blk_frozen BK208.out 0; have hfz15_1 := blk_frozen BK208.out 1) | ((with_reducible refine gate_callee (f := 85) rfl ?_); refine gx (some 23) Tryd.func85 #[.int .u64 a0_0, .int .u64 a1_0, .int .u64 t211] ?_; (with_reducible refine (bits_Sub64.calls a0_0 a1_0 t211 t212 t213 _ A4.out).mono ?_); rintro e w16 ⟨rfl, hb⟩; refine ⟨_, rfl, ?_⟩; replace BK207 := kb BK207 hb; replace BK208 := kb BK208 hb; replace BK209 := kb BK209 hb; replace HB := wb HB hb; (try clear hb); (try clear hb2); (try clear hk); (try clear hi); have hcz17_0 : w16.cell? ⟨gb209, 0, none⟩ = some (.int .u64 0) := bc BK209 0; have hcz17_1 : w16.cell? ⟨gb209, 1, none⟩ = some (.int .u64 0) := bc BK209 1; have hfz17_0 := blk_frozen BK209.out 0; have hfz17_1 := blk_frozen BK209.out 1))); refine bodyPost_ret (results_cell_row rfl _ _ gb209 65 #[.int .u64 t212, .int .u64 t210] (0, 0) _ rfl (by refine pe ?_; refine blk_put (cs := #[.int .u64 t212, .int .u64 0]) ?_ 1 _ rfl; refine pe ?_; refine blk_put (cs := #[.int .u64 0, .int .u64 0]) ?_ 0 _ rfl; refine pe ?_; exact BK209.out) Tryd.underlying65 rfl (by kernel_rfl)) rfl ?_; exact ⟨by first | rfl | (simp [errW_none, errW_some] <;> rfl) | (simp [*, errW_none, errW_some] <;> rfl), bw HB⟩

end Go.Proofs.YtbapkiclgkddcaaDoor.G
