/- Texts of this claim laid together: Gf46, Gf32, Gf10. -/
import Derived.Test.YtbapkiclgkddcaaGreatDoorShortC
import Derived.Test.YtbapkiclgkddcaaGreatDoorG0
import Derived.Test.YtbapkiclgkddcaaGreatDoorZBn2
import Derived.Test.YtbapkiclgkddcaaGreatDoorGe1
-- Printed by gp.py (a program of this session's own, over the kit's printer) out of the translation; Lean checks it.
namespace Go.Proofs.YtbapkiclgkddcaaGreatDoor.G
open Go.Proofs.YtbapkiclgkddcaaGreatDoor.Given Go.Proofs.YtbapkiclgkddcaaGreatDoor.Short
open Go.RowKit Go.Proofs.YtbapkiclgkddcaaGreatDoorW.PrintWords Go.Proofs.YtbapkiclgkddcaaGreatDoorW.PrintLast Go.Proofs.YtbapkiclgkddcaaGreatDoorW.PrintMore
attribute [local go_sem] max2_int min2_int max_two min_two max_three min_three max_four min_four   -- for this text's walks alone
set_option linter.unusedVariables false
set_option linter.unusedSimpArgs false

/-! ### r1_Divide: function 46 -/
mutual
def r1_Divide.j0 : Nat → Bool → Int → Int → Int → Int → Option (Int × Int × Int × Int)
 | 0, _, _, _, _, _ => none
 | k + 1, x18, x124000, x124001, x125000, x125001 => if x18 = true then (if x125001 = 0 then (none) else (some (0, IntKind.u64.wrap (Int.tdiv x124001 x125001), 0, Int.tmod x124001 x125001))) else (r1_Divide.l0 k 127 x124000 x124001 x125000 x125001 0 0 0 0)
def r1_Divide.l0 : Nat → Int → Int → Int → Int → Int → Int → Int → Int → Int → Option (Int × Int × Int × Int)
 | 0, _, _, _, _, _, _, _, _, _ => none
 | k + 1, x8, x124000, x124001, x125000, x125001, x128000, x128001, x129000, x129001 => if x8 ≥ 0 then (if 0 ≤ (IntKind.u64.wrap (Int.tmod x8 64)) then (if x8 ≥ 64 then (if 0 ≤ (IntKind.u64.wrap (wrap64 (x8 - 64))) then (r1_Divide.j2 k x8 (Go.bits .and .u64 (shr .u64 x124000 (IntKind.u64.wrap (wrap64 (x8 - 64)))) 1) x124000 x124001 x125000 x125001 x128000 x128001 x129000 x129001) else (none)) else (r1_Divide.j2 k x8 (Go.bits .and .u64 (shr .u64 x124001 (IntKind.u64.wrap (Int.tmod x8 64))) 1) x124000 x124001 x125000 x125001 x128000 x128001 x129000 x129001)) else (none)) else (some (x128000, x128001, x129000, x129001))
def r1_Divide.j2 : Nat → Int → Int → Int → Int → Int → Int → Int → Int → Int → Int → Option (Int × Int × Int × Int)
 | 0, _, _, _, _, _, _, _, _, _, _ => none
 | k + 1, x8, x9, x124000, x124001, x125000, x125001, x128000, x128001, x129000, x129001 => (r1_Twice.f x129000 x129001).bind fun bt129 => ((r1_Twice.f x128000 x128001).bind fun bt131 => (if (x129000 / 9223372036854775808) = 1 then ((r1_Minus.f bt129.1 (Go.bits .or .u64 bt129.2 x9) x125000 x125001).bind fun bt133 => (r1_Divide.l0 k (wrap64 (x8 - 1)) x124000 x124001 x125000 x125001 bt131.1 (Go.bits .or .u64 bt131.2 1) bt133.1 bt133.2)) else ((r1_Order.f k bt129.1 (Go.bits .or .u64 bt129.2 x9) x125000 x125001).bind fun t135 => (if t135 ≥ 0 then ((r1_Minus.f bt129.1 (Go.bits .or .u64 bt129.2 x9) x125000 x125001).bind fun bt136 => (r1_Divide.l0 k (wrap64 (x8 - 1)) x124000 x124001 x125000 x125001 bt131.1 (Go.bits .or .u64 bt131.2 1) bt136.1 bt136.2)) else (r1_Divide.l0 k (wrap64 (x8 - 1)) x124000 x124001 x125000 x125001 bt131.1 bt131.2 bt129.1 (Go.bits .or .u64 bt129.2 x9))))))
end
def r1_Divide.f (k : Nat) (a0_0 : Int) (a0_1 : Int) (a1_0 : Int) (a1_1 : Int) : Option (Int × Int × Int × Int) := if a0_0 = 0 then (r1_Divide.j0 k (a1_0 == 0) a0_0 a0_1 a1_0 a1_1) else (r1_Divide.j0 k false a0_0 a0_1 a1_0 a1_1)
theorem r1_Divide.mono_l : ∀ k, (∀ y0 y1 y2 y3 y4, LeO (r1_Divide.j0 k y0 y1 y2 y3 y4) (r1_Divide.j0 (k + 1) y0 y1 y2 y3 y4)) ∧ (∀ y0 y1 y2 y3 y4 y5 y6 y7 y8, LeO (r1_Divide.l0 k y0 y1 y2 y3 y4 y5 y6 y7 y8) (r1_Divide.l0 (k + 1) y0 y1 y2 y3 y4 y5 y6 y7 y8)) ∧ (∀ y0 y1 y2 y3 y4 y5 y6 y7 y8 y9, LeO (r1_Divide.j2 k y0 y1 y2 y3 y4 y5 y6 y7 y8 y9) (r1_Divide.j2 (k + 1) y0 y1 y2 y3 y4 y5 y6 y7 y8 y9))
 | 0 => ⟨fun _ _ _ _ _ r h => by simp [r1_Divide.j0] at h, fun _ _ _ _ _ _ _ _ _ r h => by simp [r1_Divide.l0] at h, fun _ _ _ _ _ _ _ _ _ _ r h => by simp [r1_Divide.j2] at h⟩
 | k + 1 => by
  obtain ⟨ih0, ih1, ih2⟩ := r1_Divide.mono_l k; refine ⟨?_, ?_, ?_⟩
  ·intro y0 y1 y2 y3 y4; unfold r1_Divide.j0
   repeat' first
   | (with_reducible exact ih0 _ _ _ _ _)
   | (with_reducible exact ih1 _ _ _ _ _ _ _ _ _)
   | (with_reducible exact ih2 _ _ _ _ _ _ _ _ _ _)
   | (with_reducible exact r1_Order.mono _ _ _ _ _)
   | (with_reducible exact LeO.refl _)
   | (with_reducible exact LeO.none _)
   | (with_reducible refine LeO.ite ?_ ?_)
   | (with_reducible refine LeO.bind ?_ (fun _ => ?_))
   | exact ih0 _ _ _ _ _
   | exact ih1 _ _ _ _ _ _ _ _ _
   | exact ih2 _ _ _ _ _ _ _ _ _ _
   | exact r1_Order.mono _ _ _ _ _
   | exact LeO.none _
   | refine LeO.ite ?_ ?_
   | refine LeO.bind ?_ (fun _ => ?_)
  ·intro y0 y1 y2 y3 y4 y5 y6 y7 y8; unfold r1_Divide.l0
   repeat' first
   | (with_reducible exact ih0 _ _ _ _ _)
   | (with_reducible exact ih1 _ _ _ _ _ _ _ _ _)
   | (with_reducible exact ih2 _ _ _ _ _ _ _ _ _ _)
   | (with_reducible exact r1_Order.mono _ _ _ _ _)
   | (with_reducible exact LeO.refl _)
   | (with_reducible exact LeO.none _)
   | (with_reducible refine LeO.ite ?_ ?_)
   | (with_reducible refine LeO.bind ?_ (fun _ => ?_))
   | exact ih0 _ _ _ _ _
   | exact ih1 _ _ _ _ _ _ _ _ _
   | exact ih2 _ _ _ _ _ _ _ _ _ _
   | exact r1_Order.mono _ _ _ _ _
   | exact LeO.none _
   | refine LeO.ite ?_ ?_
   | refine LeO.bind ?_ (fun _ => ?_)
  ·intro y0 y1 y2 y3 y4 y5 y6 y7 y8 y9; unfold r1_Divide.j2
   repeat' first
   | (with_reducible exact ih0 _ _ _ _ _)
   | (with_reducible exact ih1 _ _ _ _ _ _ _ _ _)
   | (with_reducible exact ih2 _ _ _ _ _ _ _ _ _ _)
   | (with_reducible exact r1_Order.mono _ _ _ _ _)
   | (with_reducible exact LeO.refl _)
   | (with_reducible exact LeO.none _)
   | (with_reducible refine LeO.ite ?_ ?_)
   | (with_reducible refine LeO.bind ?_ (fun _ => ?_))
   | exact ih0 _ _ _ _ _
   | exact ih1 _ _ _ _ _ _ _ _ _
   | exact ih2 _ _ _ _ _ _ _ _ _ _
   | exact r1_Order.mono _ _ _ _ _
   | exact LeO.none _
   | refine LeO.ite ?_ ?_
   | refine LeO.bind ?_ (fun _ => ?_)
theorem r1_Divide.mono : ∀ a0 a1 a2 a3 k, LeO (r1_Divide.f k a0 a1 a2 a3) (r1_Divide.f (k + 1) a0 a1 a2 a3) := by
 intro a0 a1 a2 a3 k; obtain ⟨ih0, ih1, ih2⟩ := r1_Divide.mono_l k; unfold r1_Divide.f
 repeat' first
   | (with_reducible exact ih0 _ _ _ _ _)
   | (with_reducible exact ih1 _ _ _ _ _ _ _ _ _)
   | (with_reducible exact ih2 _ _ _ _ _ _ _ _ _ _)
   | (with_reducible exact r1_Order.mono _ _ _ _ _)
   | (with_reducible exact LeO.refl _)
   | (with_reducible exact LeO.none _)
   | (with_reducible refine LeO.ite ?_ ?_)
   | (with_reducible refine LeO.bind ?_ (fun _ => ?_))
   | exact ih0 _ _ _ _ _
   | exact ih1 _ _ _ _ _ _ _ _ _
   | exact ih2 _ _ _ _ _ _ _ _ _ _
   | exact r1_Order.mono _ _ _ _ _
   | exact LeO.none _
   | refine LeO.ite ?_ ?_
   | refine LeO.bind ?_ (fun _ => ?_)
def r1_Divide.T2 : Bool × List (List Nat × List Nat) := (true, [([], []), ([0], [0]), ([], []), ([2], [2]), ([1, 3], [1, 3]), ([4], [4]), ([], []), ([6], [6]), ([], []), ([8], [8]), ([7, 9], [7, 9]), ([10], [10]), ([5, 0, 1, 2, 3, 4, 5], [5]), ([11, 12, 0, 1, 2, 3, 4, 5, 6, 7, 8, 9, 10, 11, 12], [11])])
def r1_Divide.B2 : List Nat := [0, 1, 0, 4, 15, 31, 0, 64, 0, 256, 960, 1984, 63, 8191]
theorem r1_Divide.tab2 : rtab .any (opsOf Tryz.f46 2) = r1_Divide.T2 := by kernel_rfl
theorem r1_Divide.bits2 : waitsOk r1_Divide.T2.2 r1_Divide.B2 = true := by kernel_rfl
set_option maxHeartbeats 8000000 in
set_option maxRecDepth 100000 in
theorem r1_Divide.calls (k : Nat) (a0_0 : Int) (a0_1 : Int) (a1_0 : Int) (a1_1 : Int) (r1 : Int) (r2 : Int) (r3 : Int) (r4 : Int) (w : World) (h : r1_Divide.f k a0_0 a0_1 a1_0 a1_1 = some (r1, r2, r3, r4)) :
  Calls Tryz.prog 46 #[.agg #[.int .u64 a0_0, .int .u64 a0_1], .agg #[.int .u64 a1_0, .int .u64 a1_1]] w fun e w' => e = .returned (.tuple #[.agg #[.int .u64 r1, .int .u64 r2], .agg #[.int .u64 r3, .int .u64 r4]]) ∧ Below w.heap.size w w' := by
 have hu48 := Tryz.underlying48; have HB := Aside0.mk (Below.refl w.heap.size w); have H : (if a0_0 = 0 then (r1_Divide.j0 k (a1_0 == 0) a0_0 a0_1 a1_0 a1_1) else (r1_Divide.j0 k false a0_0 a0_1 a1_0 a1_1)) = some (r1, r2, r3, r4) := h; clear h; have HC3 := Aside0.mk H; clear H; go_enter Tryz.func46, Tryz.ntmps46
 go_upto_region 1 with (first | ((with_reducible refine gate_dst (N := 2) rfl ?_); refine bx (N := 2) (cs := #[.int .u64 a0_0, .int .u64 a0_1]) (t := 48) ?_; intro gb123 hg w4 hbox hb; have BK123 := Aside0.mk (hbox); have GW123 := gs HB hg; have GE123 := gs HB hg; replace HB := wb HB hb; clear hb hbox hg) | ((with_reducible refine gate_dst (N := 3) rfl ?_); refine bx (N := 3) (cs := #[.int .u64 a1_0, .int .u64 a1_1]) (t := 48) ?_; intro gb124 hg w5 hbox hb; have BK124 := Aside0.mk (hbox); have GW124 := gs HB hg; have GE124 := gs HB hg; have NB123_124 := nl BK123 hg; have NB124_123 := nr BK123 hg; replace BK123 := kb BK123 hb; replace HB := wb HB hb; clear hb hbox hg) | ((with_reducible refine gate_dst (N := 4) rfl ?_); refine bx (N := 4) (cs := #[.int .u64 0, .int .u64 0]) (t := 48) ?_; intro gb125 hg w6 hbox hb; have BK125 := Aside0.mk (hbox); have GW125 := gs HB hg; have GE125 := gs HB hg; have NB123_125 := nl BK123 hg; have NB125_123 := nr BK123 hg; have NB124_125 := nl BK124 hg; have NB125_124 := nr BK124 hg; replace BK123 := kb BK123 hb; replace BK124 := kb BK124 hb; replace HB := wb HB hb; clear hb hbox hg) | ((with_reducible refine gate_dst (N := 5) rfl ?_); refine bx (N := 5) (cs := #[.int .u64 0, .int .u64 0]) (t := 48) ?_; intro gb126 hg w7 hbox hb; have BK126 := Aside0.mk (hbox); have GW126 := gs HB hg; have GE126 := gs HB hg; have NB123_126 := nl BK123 hg; have NB126_123 := nr BK123 hg; have NB124_126 := nl BK124 hg; have NB126_124 := nr BK124 hg; have NB125_126 := nl BK125 hg; have NB126_125 := nr BK125 hg; replace BK123 := kb BK123 hb; replace BK124 := kb BK124 hb; replace BK125 := kb BK125 hb; replace HB := wb HB hb; clear hb hbox hg))
 (try simp only [Act.put, List.setIfInBounds_toArray, List.set_cons_zero, List.set_cons_succ])
 go_cut [18] (fun v18 wc => ∃ (kq : Nat) (x18_2 : Bool), v18 = .bool x18_2 ∧ Aside0 (r1_Divide.j0 kq x18_2 a0_0 a0_1 a1_0 a1_1 = some (r1, r2, r3, r4)) ∧ Aside0 (kq ≤ k) ∧ Aside0 (wc.heap[gb123]? = some (.cells #[.int .u64 a0_0, .int .u64 a0_1] 48 (0, 0))) ∧ Aside0 (wc.heap[gb124]? = some (.cells #[.int .u64 a1_0, .int .u64 a1_1] 48 (0, 0))) ∧ Aside0 (wc.heap[gb125]? = some (.cells #[.int .u64 0, .int .u64 0] 48 (0, 0))) ∧ Aside0 (wc.heap[gb126]? = some (.cells #[.int .u64 0, .int .u64 0] 48 (0, 0))) ∧ Aside0 (Below w.heap.size w wc))
 case first =>
  have H := HC3.out; clear HC3
  by_cases c8 : a0_0 = 0
  ·rw [if_pos c8] at H; have c8b0 : (a0_0 == 0) = true := beq_iff_eq.mpr c8; have c8b1 : (a0_0 != 0) = false := bne_eq_false_iff_eq.mpr c8; clear c8
   (first | rw [c8b0] | (simp only [i64_w, i32_w]; rw [c8b0]) | skip)
   have H' := Aside0.mk H; clear H; obtain ⟨hnb9, hnc9⟩ := n2 NB123_124; obtain ⟨hnb10, hnc10⟩ := n2 NB123_125; obtain ⟨hnb11, hnc11⟩ := n2 NB123_126; have hcz12_0 : w7.cell? ⟨gb123, 0, none⟩ = some (.int .u64 a0_0) := bc BK123 0; have hcz12_1 : w7.cell? ⟨gb123, 1, none⟩ = some (.int .u64 a0_1) := bc BK123 1; have hfz12_0 := blk_frozen BK123.out 0; have hfz12_1 := blk_frozen BK123.out 1; obtain ⟨hnb13, hnc13⟩ := n2 NB124_125; obtain ⟨hnb14, hnc14⟩ := n2 NB124_126; have hcz15_0 : w7.cell? ⟨gb124, 0, none⟩ = some (.int .u64 a1_0) := bc BK124 0; have hcz15_1 : w7.cell? ⟨gb124, 1, none⟩ = some (.int .u64 a1_1) := bc BK124 1; have hfz15_0 := blk_frozen BK124.out 0; have hfz15_1 := blk_frozen BK124.out 1; go_wp2
   go_meet
   case rel => exact ⟨_, ((a1_0 == 0)), (by first | rfl | (simp; done) | (simp [*]; done)), H', ⟨by first | omega | exact Nat.le_refl _⟩, ⟨bq BK123⟩, ⟨bq BK124⟩, ⟨bq BK125⟩, ⟨bq BK126⟩, ⟨bw HB⟩⟩
  ·rw [if_neg c8] at H; have c8b0 : (a0_0 == 0) = false := beq_eq_false_iff_ne.mpr c8; have c8b1 : (a0_0 != 0) = true := bne_iff_ne.mpr c8
   (first | rw [c8b0] | (simp only [i64_w, i32_w]; rw [c8b0]) | skip)
   have H' := Aside0.mk H; clear H; obtain ⟨hnb16, hnc16⟩ := n2 NB123_124; obtain ⟨hnb17, hnc17⟩ := n2 NB123_125; obtain ⟨hnb18, hnc18⟩ := n2 NB123_126; have hcz19_0 : w7.cell? ⟨gb123, 0, none⟩ = some (.int .u64 a0_0) := bc BK123 0; have hcz19_1 : w7.cell? ⟨gb123, 1, none⟩ = some (.int .u64 a0_1) := bc BK123 1; have hfz19_0 := blk_frozen BK123.out 0; have hfz19_1 := blk_frozen BK123.out 1; go_wp2
   go_meet
   case rel => exact ⟨_, (false), (by first | rfl | (simp; done) | (simp [*]; done)), H', ⟨by first | omega | exact Nat.le_refl _⟩, ⟨bq BK123⟩, ⟨bq BK124⟩, ⟨bq BK125⟩, ⟨bq BK126⟩, ⟨bw HB⟩⟩
 case rest =>
  clear HC3; (try clear c1); (try clear p2); (try clear c4); (try clear c8); (try clear c8b0); (try clear c8b1); (try clear c9); (try clear c10); (try clear c11); (try clear c13); (try clear c14); (try clear c16); (try clear c17); (try clear c18); (try clear hcz12_0); (try clear hcz12_1); (try clear hcz15_0); (try clear hcz15_1); (try clear hcz19_0); (try clear hcz19_1); (try clear hfz12_0); (try clear hfz12_1); (try clear hfz15_0); (try clear hfz15_1); (try clear hfz19_0); (try clear hfz19_1); obtain ⟨kq, x18_2, rfl, HA, HJ2, BK123, BK124, BK125, BK126, HB⟩ := hcut
  cases kq with
  | zero => exact absurd HA.out (by simp [r1_Divide.j0])
  | succ kj2 =>
   have H := HA.out; clear HA; simp only [r1_Divide.j0] at H
   by_cases c20 : x18_2 = true
   ·subst c20; (have H1 : (if a1_1 = 0 then (none) else (some (0, IntKind.u64.wrap (Int.tdiv a0_1 a1_1), 0, Int.tmod a0_1 a1_1))) = some (r1, r2, r3, r4) := by rw [if_pos rfl] at H; exact H); clear H; have H := H1; clear H1
    by_cases c21 : a1_1 = 0
    ·rw [if_pos c21] at H; exact absurd H (by simp)
    ·rw [if_neg c21] at H; have c21b0 : (a1_1 == 0) = false := beq_eq_false_iff_ne.mpr c21; have c21b1 : (a1_1 != 0) = true := bne_iff_ne.mpr c21; simp only [Option.some.injEq, Prod.mk.injEq] at H; obtain ⟨rfl, rfl, rfl, rfl⟩ := H; (try go_wp2); have n0_ := Aside0.mk (blk_drew BK123.out); have n1_ := Aside0.mk (blk_drew BK124.out); have n2_ := Aside0.mk (blk_drew BK125.out); have n3_ := Aside0.mk (blk_drew BK126.out); have n4_ := Aside0.mk (below_drew1 HB.out); clear BK123; clear BK124; clear BK125; clear BK126; clear HB; have BK123 := n0_; have BK124 := n1_; have BK125 := n2_; have BK126 := n3_; have HB := n4_; clear n0_ n1_ n2_ n3_ n4_; refine start_ (n := 14) (S := fun w' => w'.cell? ⟨gb123, 0, none⟩ = some (.int .u64 a0_0) ∧ w'.cell? ⟨gb123, 1, none⟩ = some (.int .u64 a0_1) ∧ w'.cell? ⟨gb124, 0, none⟩ = some (.int .u64 a1_0) ∧ w'.cell? ⟨gb124, 1, none⟩ = some (.int .u64 a1_1)) (ds := []) #[false, false, false, false, false, false, false, false, false, false, false, false, false, false] (by kernel_rfl) rfl rfl ⟨bc BK123 0, bc BK123 1, bc BK124 0, bc BK124 1⟩ (fun hHeld => ?_); refine with_tabW r1_Divide.tab2 r1_Divide.bits2 (fun HT_ HW_ => ?_); (generalize wc.drew = w22 at BK123 BK124 BK125 BK126 HB hHeld ⊢); refine pure_ (i := 0) (N := some 19) (v := ?_) (a' := ?_) #[true, false, false, false, false, false, false, false, false, false, false, false, false, false] rfl rfl (any_of HT_.out (by kernel_rfl)) (fun _ _ _ h => h) (Or.inl ⟨by rfl, ?_⟩) ?_ ?_; rotate_left
     ·intro w'; (go_simp); with_reducible rfl
     rotate_left
     ·simp only [Act.put, List.setIfInBounds_toArray, List.set_cons_zero, List.set_cons_succ, i64_w, i32_w]; rfl
     refine pure_ (i := 2) (N := some 21) (v := ?_) (a' := ?_) #[true, false, true, false, false, false, false, false, false, false, false, false, false, false] rfl rfl (any_of HT_.out (by kernel_rfl)) (fun _ _ _ h => h) (Or.inl ⟨by rfl, ?_⟩) ?_ ?_; rotate_left
     ·intro w'; (go_simp); with_reducible rfl
     rotate_left
     ·simp only [Act.put, List.setIfInBounds_toArray, List.set_cons_zero, List.set_cons_succ, i64_w, i32_w]; rfl
     refine pure_ (i := 6) (N := some 25) (v := ?_) (a' := ?_) #[true, false, true, false, false, false, true, false, false, false, false, false, false, false] rfl rfl (any_of HT_.out (by kernel_rfl)) (fun _ _ _ h => h) (Or.inl ⟨by rfl, ?_⟩) ?_ ?_; rotate_left
     ·intro w'; (go_simp); with_reducible rfl
     rotate_left
     ·simp only [Act.put, List.setIfInBounds_toArray, List.set_cons_zero, List.set_cons_succ, i64_w, i32_w]; rfl
     refine pure_ (i := 8) (N := some 27) (v := ?_) (a' := ?_) #[true, false, true, false, false, false, true, false, true, false, false, false, false, false] rfl rfl (any_of HT_.out (by kernel_rfl)) (fun _ _ _ h => h) (Or.inl ⟨by rfl, ?_⟩) ?_ ?_; rotate_left
     ·intro w'; (go_simp); with_reducible rfl
     rotate_left
     ·simp only [Act.put, List.setIfInBounds_toArray, List.set_cons_zero, List.set_cons_succ, i64_w, i32_w]; rfl
     refine take_ (i := 1) (N := some 20) (v := ?_) (a' := ?_) #[true, true, true, false, false, false, true, false, true, false, false, false, false, false] rfl rfl (take_ofW HT_.out HW_.out (by kernel_rfl)) (fun _ _ _ h => h) (Or.inl ⟨by rfl, ?_⟩) hHeld ?_ ?_; rotate_left
     ·rintro w' ⟨s0, s1, s2, s3⟩; (go_simp); with_reducible rfl
     rotate_left
     ·simp only [Act.put, List.setIfInBounds_toArray, List.set_cons_zero, List.set_cons_succ, i64_w, i32_w]; rfl
     refine take_ (i := 3) (N := some 22) (v := ?_) (a' := ?_) #[true, true, true, true, false, false, true, false, true, false, false, false, false, false] rfl rfl (take_ofW HT_.out HW_.out (by kernel_rfl)) (fun _ _ _ h => h) (Or.inl ⟨by rfl, ?_⟩) hHeld ?_ ?_; rotate_left
     ·rintro w' ⟨s0, s1, s2, s3⟩; (go_simp); with_reducible rfl
     rotate_left
     ·simp only [Act.put, List.setIfInBounds_toArray, List.set_cons_zero, List.set_cons_succ, i64_w, i32_w]; rfl
     refine pure_ (i := 4) (N := some 23) (v := ?_) (a' := ?_) #[true, true, true, true, true, false, true, false, true, false, false, false, false, false] rfl rfl (any_of HT_.out (by kernel_rfl)) (fun _ _ _ h => h) (Or.inl ⟨by rfl, ?_⟩) ?_ ?_; rotate_left
     ·intro w'; (go_simp); with_reducible rfl
     rotate_left
     ·simp only [Act.put, List.setIfInBounds_toArray, List.set_cons_zero, List.set_cons_succ, i64_w, i32_w]; rfl
     refine pure_ (i := 5) (N := some 24) (v := ?_) (a' := ?_) #[true, true, true, true, true, true, true, false, true, false, false, false, false, false] rfl rfl (any_of HT_.out (by kernel_rfl)) (fun _ _ _ h => h) (Or.inl ⟨by rfl, ?_⟩) ?_ ?_; rotate_left
     ·intro w'; (go_simp); with_reducible rfl
     rotate_left
     ·simp only [Act.put, List.setIfInBounds_toArray, List.set_cons_zero, List.set_cons_succ, i64_w, i32_w]; rfl
     refine take_ (i := 7) (N := some 26) (v := ?_) (a' := ?_) #[true, true, true, true, true, true, true, true, true, false, false, false, false, false] rfl rfl (take_ofW HT_.out HW_.out (by kernel_rfl)) (fun _ _ _ h => h) (Or.inl ⟨by rfl, ?_⟩) hHeld ?_ ?_; rotate_left
     ·rintro w' ⟨s0, s1, s2, s3⟩; (go_simp); with_reducible rfl
     rotate_left
     ·simp only [Act.put, List.setIfInBounds_toArray, List.set_cons_zero, List.set_cons_succ, i64_w, i32_w]; rfl
     refine take_ (i := 9) (N := some 28) (v := ?_) (a' := ?_) #[true, true, true, true, true, true, true, true, true, true, false, false, false, false] rfl rfl (take_ofW HT_.out HW_.out (by kernel_rfl)) (fun _ _ _ h => h) (Or.inl ⟨by rfl, ?_⟩) hHeld ?_ ?_; rotate_left
     ·rintro w' ⟨s0, s1, s2, s3⟩; (go_simp); with_reducible rfl
     rotate_left
     ·simp only [Act.put, List.setIfInBounds_toArray, List.set_cons_zero, List.set_cons_succ, i64_w, i32_w]; rfl
     refine pure_ (i := 10) (N := some 29) (v := ?_) (a' := ?_) #[true, true, true, true, true, true, true, true, true, true, true, false, false, false] rfl rfl (any_of HT_.out (by kernel_rfl)) (fun _ _ _ h => h) (Or.inl ⟨by rfl, ?_⟩) ?_ ?_; rotate_left
     ·intro w'; (go_simp); with_reducible rfl
     rotate_left
     ·simp only [Act.put, List.setIfInBounds_toArray, List.set_cons_zero, List.set_cons_succ, i64_w, i32_w]; rfl
     refine pure_ (i := 11) (N := some 30) (v := ?_) (a' := ?_) #[true, true, true, true, true, true, true, true, true, true, true, true, false, false] rfl rfl (any_of HT_.out (by kernel_rfl)) (fun _ _ _ h => h) (Or.inl ⟨by rfl, ?_⟩) ?_ ?_; rotate_left
     ·intro w'; (go_simp); with_reducible rfl
     rotate_left
     ·simp only [Act.put, List.setIfInBounds_toArray, List.set_cons_zero, List.set_cons_succ, i64_w, i32_w]; rfl
     refine one_ (i := 12) (N := none) #[true, true, true, true, true, true, true, true, true, true, true, true, true, false] rfl rfl (one_of HT_.out (by kernel_rfl)) (by decide) (fun K hK => ?_); have hs23 : w22.cell? ⟨gb125, 0, none⟩ = some (.int .u64 0) := bc BK125 0; have hfs23 := blk_frozen BK125.out 0; have hns23_0 := NB123_125.out; have hns23_1 := NB124_125.out; have hns23_3 := NB126_125.out; have hms23_0 := NB125_123.out; have hms23_1 := NB125_124.out; have hms23_3 := NB125_126.out; have hs24 : w22.cell? ⟨gb125, 1, none⟩ = some (.int .u64 0) := bc BK125 1; have hfs24 := blk_frozen BK125.out 1; have hns24_0 := NB123_125.out; have hns24_1 := NB124_125.out; have hns24_3 := NB126_125.out; have hms24_0 := NB125_123.out; have hms24_1 := NB125_124.out; have hms24_3 := NB125_126.out; refine skip_ (w1 := ?_) (by rfl) rfl ?_ ?_; rotate_left
     ·(go_simp); rfl
     refine hK.out _ _ ⟨((cell_far (p := ⟨gb125, _, none⟩) NB123_125.out _).trans (((cell_far (p := ⟨gb125, _, none⟩) NB123_125.out _).trans (hHeld.1)))), ((cell_far (p := ⟨gb125, _, none⟩) NB123_125.out _).trans (((cell_far (p := ⟨gb125, _, none⟩) NB123_125.out _).trans (hHeld.2.1)))), ((cell_far (p := ⟨gb125, _, none⟩) NB124_125.out _).trans (((cell_far (p := ⟨gb125, _, none⟩) NB124_125.out _).trans (hHeld.2.2.1)))), ((cell_far (p := ⟨gb125, _, none⟩) NB124_125.out _).trans (((cell_far (p := ⟨gb125, _, none⟩) NB124_125.out _).trans (hHeld.2.2.2))))⟩ (fun hHeld => ?_); clear hK K; refine one_ (i := 13) (N := none) #[true, true, true, true, true, true, true, true, true, true, true, true, true, true] rfl rfl (one_of HT_.out (by kernel_rfl)) (by decide) (fun K hK => ?_); have hs25 : w22.cell? ⟨gb126, 0, none⟩ = some (.int .u64 0) := bc BK126 0; have hfs25 := blk_frozen BK126.out 0; have hns25_0 := NB123_126.out; have hns25_1 := NB124_126.out; have hns25_2 := NB125_126.out; have hms25_0 := NB126_123.out; have hms25_1 := NB126_124.out; have hms25_2 := NB126_125.out; have hs26 : w22.cell? ⟨gb126, 1, none⟩ = some (.int .u64 0) := bc BK126 1; have hfs26 := blk_frozen BK126.out 1; have hns26_0 := NB123_126.out; have hns26_1 := NB124_126.out; have hns26_2 := NB125_126.out; have hms26_0 := NB126_123.out; have hms26_1 := NB126_124.out; have hms26_2 := NB126_125.out; refine skip_ (w1 := ?_) (by rfl) rfl ?_ ?_; rotate_left
     ·(go_simp); rfl
     refine hK.out _ _ ⟨((cell_far (p := ⟨gb126, _, none⟩) NB123_126.out _).trans (((cell_far (p := ⟨gb126, _, none⟩) NB123_126.out _).trans (hHeld.1)))), ((cell_far (p := ⟨gb126, _, none⟩) NB123_126.out _).trans (((cell_far (p := ⟨gb126, _, none⟩) NB123_126.out _).trans (hHeld.2.1)))), ((cell_far (p := ⟨gb126, _, none⟩) NB124_126.out _).trans (((cell_far (p := ⟨gb126, _, none⟩) NB124_126.out _).trans (hHeld.2.2.1)))), ((cell_far (p := ⟨gb126, _, none⟩) NB124_126.out _).trans (((cell_far (p := ⟨gb126, _, none⟩) NB124_126.out _).trans (hHeld.2.2.2))))⟩ (fun hHeld => ?_); clear hK K; refine done_ (done_of HT_.out (by kernel_rfl)) ?_; (try go_wp2); refine bodyPost_ret (results_cc rfl _ _ gb125 gb126 48 48 #[.int .u64 0, .int .u64 (IntKind.u64.wrap (Int.tdiv a0_1 a1_1))] #[.int .u64 0, .int .u64 (Int.tmod a0_1 a1_1)] (0, 0) (0, 0) _ _ rfl (by refine pe ?_; refine blk_far ?_ NB125_126.out _; refine pe ?_; refine blk_far ?_ NB125_126.out _; refine pe ?_; refine blk_put (cs := #[.int .u64 0, .int .u64 0]) ?_ 1 _ rfl; refine pe ?_; refine blk_put (cs := #[.int .u64 0, .int .u64 0]) ?_ 0 _ rfl; refine pe ?_; exact BK125.out) Tryz.underlying48 rfl (by kernel_rfl) rfl (by refine pe ?_; refine blk_put (cs := #[.int .u64 0, .int .u64 0]) ?_ 1 _ rfl; refine pe ?_; refine blk_put (cs := #[.int .u64 0, .int .u64 0]) ?_ 0 _ rfl; refine pe ?_; refine blk_far ?_ NB126_125.out _; refine pe ?_; refine blk_far ?_ NB126_125.out _; refine pe ?_; exact BK126.out) Tryz.underlying48 rfl (by kernel_rfl)) rfl ?_; exact ⟨by first | rfl | (simp [errW_none, errW_some] <;> rfl) | (simp [*, errW_none, errW_some] <;> rfl), bw HB⟩
   ·replace c20 := Bool.eq_false_iff.mpr c20; subst c20; (have H1 : (r1_Divide.l0 kj2 127 a0_0 a0_1 a1_0 a1_1 0 0 0 0) = some (r1, r2, r3, r4) := by rw [if_neg (show ¬ (false = true) by decide)] at H; exact H); clear H; have H := H1; clear H1; have H' := Aside0.mk H; clear H; (go_wp2_with (first | ((with_reducible refine gate_dst (N := 6) rfl ?_); refine bx (N := 6) (cs := #[.int .u64 0, .int .u64 0]) (t := 48) ?_; intro gb127 hg w27 hbox hb; have BK127 := Aside0.mk (hbox); have GW127 := gs HB hg; have GE127 := gs HB hg; have NB123_127 := nl BK123 hg; have NB127_123 := nr BK123 hg; have NB124_127 := nl BK124 hg; have NB127_124 := nr BK124 hg; have NB125_127 := nl BK125 hg; have NB127_125 := nr BK125 hg; have NB126_127 := nl BK126 hg; have NB127_126 := nr BK126 hg; replace BK123 := kb BK123 hb; replace BK124 := kb BK124 hb; replace BK125 := kb BK125 hb; replace BK126 := kb BK126 hb; replace HB := wb HB hb; clear hb hbox hg) | ((with_reducible refine gate_dst (N := 7) rfl ?_); refine bx (N := 7) (cs := #[.int .u64 0, .int .u64 0]) (t := 48) ?_; intro gb128 hg w28 hbox hb; have BK128 := Aside0.mk (hbox); have GW128 := gs HB hg; have GE128 := gs HB hg; have NB123_128 := nl BK123 hg; have NB128_123 := nr BK123 hg; have NB124_128 := nl BK124 hg; have NB128_124 := nr BK124 hg; have NB125_128 := nl BK125 hg; have NB128_125 := nr BK125 hg; have NB126_128 := nl BK126 hg; have NB128_126 := nr BK126 hg; have NB127_128 := nl BK127 hg; have NB128_127 := nr BK127 hg; replace BK123 := kb BK123 hb; replace BK124 := kb BK124 hb; replace BK125 := kb BK125 hb; replace BK126 := kb BK126 hb; replace BK127 := kb BK127 hb; replace HB := wb HB hb; clear hb hbox hg; obtain ⟨hnb29, hnc29⟩ := n2 NB127_123; obtain ⟨hnb30, hnc30⟩ := n2 NB127_124; obtain ⟨hnb31, hnc31⟩ := n2 NB127_125; obtain ⟨hnb32, hnc32⟩ := n2 NB127_126; obtain ⟨hnb33, hnc33⟩ := n2 NB127_128; have hcz34_0 : w28.cell? ⟨gb127, 0, none⟩ = some (.int .u64 0) := bc BK127 0; have hcz34_1 : w28.cell? ⟨gb127, 1, none⟩ = some (.int .u64 0) := bc BK127 1; have hfz34_0 := blk_frozen BK127.out 0; have hfz34_1 := blk_frozen BK127.out 1; obtain ⟨hnb35, hnc35⟩ := n2 NB128_123; obtain ⟨hnb36, hnc36⟩ := n2 NB128_124; obtain ⟨hnb37, hnc37⟩ := n2 NB128_125; obtain ⟨hnb38, hnc38⟩ := n2 NB128_126; have hcz39_0 : w28.cell? ⟨gb128, 0, none⟩ = some (.int .u64 0) := bc BK128 0; have hcz39_1 : w28.cell? ⟨gb128, 1, none⟩ = some (.int .u64 0) := bc BK128 1; have hfz39_0 := blk_frozen BK128.out 0; have hfz39_1 := blk_frozen BK128.out 1))); (try simp only [Act.put, List.setIfInBounds_toArray, List.set_cons_zero, List.set_cons_succ])
    go_loopg [8] kj2 (fun kq v8 w' => ∃ (x8_2 : Int) (x128000_2 : Int) (x128001_2 : Int) (x129000_2 : Int) (x129001_2 : Int), v8 = .int .i64 x8_2 ∧ Aside0 (r1_Divide.l0 kq x8_2 a0_0 a0_1 a1_0 a1_1 x128000_2 x128001_2 x129000_2 x129001_2 = some (r1, r2, r3, r4)) ∧ Aside0 (kq ≤ kj2) ∧ Aside0 (w'.heap[gb123]? = some (.cells #[.int .u64 a0_0, .int .u64 a0_1] 48 (0, 0))) ∧ Aside0 (w'.heap[gb124]? = some (.cells #[.int .u64 a1_0, .int .u64 a1_1] 48 (0, 0))) ∧ Aside0 (w'.heap[gb125]? = some (.cells #[.int .u64 0, .int .u64 0] 48 (0, 0))) ∧ Aside0 (w'.heap[gb126]? = some (.cells #[.int .u64 0, .int .u64 0] 48 (0, 0))) ∧ Aside0 (w'.heap[gb127]? = some (.cells #[.int .u64 x128000_2, .int .u64 x128001_2] 48 (0, 0))) ∧ Aside0 (w'.heap[gb128]? = some (.cells #[.int .u64 x129000_2, .int .u64 x129001_2] 48 (0, 0))) ∧ Aside0 (Below w.heap.size w w'))
    case atStart => exact ⟨(127), (0), (0), (0), (0), (by first | rfl | (simp; done) | (simp [*]; done)), H', ⟨Nat.le_refl _⟩, ⟨bq BK123⟩, ⟨bq BK124⟩, ⟨bq BK125⟩, ⟨bq BK126⟩, ⟨by refine pe ?_; refine blk_far ?_ NB127_128.out _; refine pe ?_; refine blk_far ?_ NB127_128.out _; refine pe ?_; refine blk_put (cs := #[.int .u64 0, .int .u64 0]) ?_ 1 _ rfl; refine pe ?_; refine blk_put (cs := #[.int .u64 0, .int .u64 0]) ?_ 0 _ rfl; refine pe ?_; exact BK127.out⟩, ⟨by refine pe ?_; refine blk_put (cs := #[.int .u64 0, .int .u64 0]) ?_ 1 _ rfl; refine pe ?_; refine blk_put (cs := #[.int .u64 0, .int .u64 0]) ?_ 0 _ rfl; refine pe ?_; refine blk_far ?_ NB128_127.out _; refine pe ?_; refine blk_far ?_ NB128_127.out _; refine pe ?_; exact BK128.out⟩, ⟨bw HB⟩⟩
    case round =>
     clear H'; (try clear c1); (try clear c2); (try clear p2); (try clear c3); (try clear c4); (try clear c8); (try clear c8b0); (try clear c8b1); (try clear c9); (try clear c10); (try clear c11); (try clear c13); (try clear c14); (try clear c16); (try clear c17); (try clear c18); (try clear c20); (try clear c21); (try clear c21b0); (try clear c21b1); (try clear c29); (try clear c30); (try clear c31); (try clear c32); (try clear c33); (try clear c35); (try clear c36); (try clear c37); (try clear c38); (try clear hcz12_0); (try clear hcz12_1); (try clear hcz15_0); (try clear hcz15_1); (try clear hcz19_0); (try clear hcz19_1); (try clear hcz34_0); (try clear hcz34_1); (try clear hcz39_0); (try clear hcz39_1); (try clear hfz12_0); (try clear hfz12_1); (try clear hfz15_0); (try clear hfz15_1); (try clear hfz19_0); (try clear hfz19_1); (try clear hfz34_0); (try clear hfz34_1); (try clear hfz39_0); (try clear hfz39_1); (try clear p2); obtain ⟨x8_2, x128000_2, x128001_2, x129000_2, x129001_2, rfl, HA, HK2, BK123, BK124, BK125, BK126, BK127, BK128, HB⟩ := hrel
     cases gk with
     | zero => exact absurd HA.out (by simp [r1_Divide.l0])
     | succ k2 =>
      have H := HA.out; clear HA; simp only [r1_Divide.l0] at H
      by_cases c40 : x8_2 ≥ 0
      ·rw [if_pos c40] at H; have c40b0 : decide (0 ≤ x8_2) = true := decide_eq_true c40; clear c40; obtain ⟨ji41, hji41⟩ : ∃ j_ : Int, (IntKind.u64.wrap (Int.tmod x8_2 64)) = j_ := ⟨_, rfl⟩; replace H : (if 0 ≤ (ji41) then (if x8_2 ≥ 64 then (if 0 ≤ (IntKind.u64.wrap (wrap64 (x8_2 - 64))) then (r1_Divide.j2 k2 x8_2 (Go.bits .and .u64 (shr .u64 a0_0 (IntKind.u64.wrap (wrap64 (x8_2 - 64)))) 1) a0_0 a0_1 a1_0 a1_1 x128000_2 x128001_2 x129000_2 x129001_2) else (none)) else (r1_Divide.j2 k2 x8_2 (Go.bits .and .u64 (shr .u64 a0_1 (ji41)) 1) a0_0 a0_1 a1_0 a1_1 x128000_2 x128001_2 x129000_2 x129001_2)) else (none)) = some (r1, r2, r3, r4) := by first | (rw [hji41] at H; exact H) | (simp only [hji41] at H ⊢; exact H)
       by_cases c42 : 0 ≤ (ji41)
       ·rw [if_pos c42] at H; have c42b0 := eq_true c42; have c42b1 : decide (0 ≤ (ji41)) = true := decide_eq_true c42; clear c42; obtain ⟨ji43, hji43⟩ : ∃ j_ : Int, (shr .u64 a0_1 (ji41)) = j_ := ⟨_, rfl⟩; (replace H : (if x8_2 ≥ 64 then (if 0 ≤ (IntKind.u64.wrap (wrap64 (x8_2 - 64))) then (r1_Divide.j2 k2 x8_2 (Go.bits .and .u64 (shr .u64 a0_0 (IntKind.u64.wrap (wrap64 (x8_2 - 64)))) 1) a0_0 a0_1 a1_0 a1_1 x128000_2 x128001_2 x129000_2 x129001_2) else (none)) else (r1_Divide.j2 k2 x8_2 (Go.bits .and .u64 (ji43) 1) a0_0 a0_1 a1_0 a1_1 x128000_2 x128001_2 x129000_2 x129001_2)) = some (r1, r2, r3, r4) := by first | (rw [hji43] at H; exact H) | (simp only [hji43] at H ⊢; exact H)); have hji43_ : (a0_1 / 2 ^ min (ji41).toNat 64) = ji43 := hji43; have hji43z : (ji41) ≤ 64 → (a0_1 / 2 ^ (ji41).toNat) = ji43 := shr_small hji43; have HC44 := Aside0.mk H; clear H; obtain ⟨hnb45, hnc45⟩ := n2 NB123_124; obtain ⟨hnb46, hnc46⟩ := n2 NB123_125; obtain ⟨hnb47, hnc47⟩ := n2 NB123_126; obtain ⟨hnb48, hnc48⟩ := n2 NB123_127; obtain ⟨hnb49, hnc49⟩ := n2 NB123_128; have hcz50_0 : wr.cell? ⟨gb123, 0, none⟩ = some (.int .u64 a0_0) := bc BK123 0; have hcz50_1 : wr.cell? ⟨gb123, 1, none⟩ = some (.int .u64 a0_1) := bc BK123 1; have hfz50_0 := blk_frozen BK123.out 0; have hfz50_1 := blk_frozen BK123.out 1
        go_upto_if 45 with (fail)
        go_cut [9] (fun v9 wc => ∃ (kq : Nat) (x9_43 : Int), v9 = .int .u64 x9_43 ∧ Aside0 (r1_Divide.j2 kq x8_2 x9_43 a0_0 a0_1 a1_0 a1_1 x128000_2 x128001_2 x129000_2 x129001_2 = some (r1, r2, r3, r4)) ∧ Aside0 (kq ≤ k2) ∧ Aside0 (wc.heap[gb123]? = some (.cells #[.int .u64 a0_0, .int .u64 a0_1] 48 (0, 0))) ∧ Aside0 (wc.heap[gb124]? = some (.cells #[.int .u64 a1_0, .int .u64 a1_1] 48 (0, 0))) ∧ Aside0 (wc.heap[gb125]? = some (.cells #[.int .u64 0, .int .u64 0] 48 (0, 0))) ∧ Aside0 (wc.heap[gb126]? = some (.cells #[.int .u64 0, .int .u64 0] 48 (0, 0))) ∧ Aside0 (wc.heap[gb127]? = some (.cells #[.int .u64 x128000_2, .int .u64 x128001_2] 48 (0, 0))) ∧ Aside0 (wc.heap[gb128]? = some (.cells #[.int .u64 x129000_2, .int .u64 x129001_2] 48 (0, 0))) ∧ Aside0 (Below w.heap.size w wc))
        case first =>
         have H := HC44.out; clear HC44
         by_cases c51 : x8_2 ≥ 64
         ·rw [if_pos c51] at H; have c51b0 : decide (64 ≤ x8_2) = true := decide_eq_true c51; clear c51
          (first | rw [c51b0] | (simp only [i64_w, i32_w]; rw [c51b0]) | skip)
          obtain ⟨ji52, hji52⟩ : ∃ j_ : Int, (IntKind.u64.wrap (wrap64 (x8_2 - 64))) = j_ := ⟨_, rfl⟩; replace H : (if 0 ≤ (ji52) then (r1_Divide.j2 k2 x8_2 (Go.bits .and .u64 (shr .u64 a0_0 (ji52)) 1) a0_0 a0_1 a1_0 a1_1 x128000_2 x128001_2 x129000_2 x129001_2) else (none)) = some (r1, r2, r3, r4) := by first | (rw [hji52] at H; exact H) | (simp only [hji52] at H ⊢; exact H)
          by_cases c53 : 0 ≤ (ji52)
          ·rw [if_pos c53] at H; have c53b0 := eq_true c53; have c53b1 : decide (0 ≤ (ji52)) = true := decide_eq_true c53; clear c53; obtain ⟨ji54, hji54⟩ : ∃ j_ : Int, (shr .u64 a0_0 (ji52)) = j_ := ⟨_, rfl⟩; (replace H : (r1_Divide.j2 k2 x8_2 (Go.bits .and .u64 (ji54) 1) a0_0 a0_1 a1_0 a1_1 x128000_2 x128001_2 x129000_2 x129001_2) = some (r1, r2, r3, r4) := by first | (rw [hji54] at H; exact H) | (simp only [hji54] at H ⊢; exact H)); have hji54_ : (a0_0 / 2 ^ min (ji52).toNat 64) = ji54 := hji54; have hji54z : (ji52) ≤ 64 → (a0_0 / 2 ^ (ji52).toNat) = ji54 := shr_small hji54; have H' := Aside0.mk H; clear H; obtain ⟨hnb55, hnc55⟩ := n2 NB123_124; obtain ⟨hnb56, hnc56⟩ := n2 NB123_125; obtain ⟨hnb57, hnc57⟩ := n2 NB123_126; obtain ⟨hnb58, hnc58⟩ := n2 NB123_127; obtain ⟨hnb59, hnc59⟩ := n2 NB123_128; have hcz60_0 : wr.cell? ⟨gb123, 0, none⟩ = some (.int .u64 a0_0) := bc BK123 0; have hcz60_1 : wr.cell? ⟨gb123, 1, none⟩ = some (.int .u64 a0_1) := bc BK123 1; have hfz60_0 := blk_frozen BK123.out 0; have hfz60_1 := blk_frozen BK123.out 1; go_wp2
           go_meet
           case rel => exact ⟨_, (Go.bits .and .u64 (ji54) 1), (by first | rfl | (simp; done) | (simp only [← hji54] <;> (first | rfl | simp)) | (simp [*]; done)), H', ⟨by have := HJ2.out; have := HK2.out; first | omega | exact Nat.le_refl _⟩, ⟨bq BK123⟩, ⟨bq BK124⟩, ⟨bq BK125⟩, ⟨bq BK126⟩, ⟨bq BK127⟩, ⟨bq BK128⟩, ⟨bw HB⟩⟩
          ·rw [if_neg c53] at H; exact absurd H (by simp)
         ·rw [if_neg c51] at H; have c51b0 : decide (64 ≤ x8_2) = false := decide_eq_false c51; clear c51
          (first | rw [c51b0] | (simp only [i64_w, i32_w]; rw [c51b0]) | skip)
          have H' := Aside0.mk H; clear H; go_wp2
          go_meet
          case rel => exact ⟨_, (Go.bits .and .u64 (ji43) 1), (by first | rfl | (simp; done) | (simp only [← hji43] <;> (first | rfl | simp)) | (simp [*]; done)), H', ⟨by have := HJ2.out; have := HK2.out; first | omega | exact Nat.le_refl _⟩, ⟨bq BK123⟩, ⟨bq BK124⟩, ⟨bq BK125⟩, ⟨bq BK126⟩, ⟨bq BK127⟩, ⟨bq BK128⟩, ⟨bw HB⟩⟩
        case rest =>
         clear HC44; (try clear c1); (try clear c2); (try clear p2); (try clear c3); (try clear c4); (try clear c5); (try clear p6); (try clear c8); (try clear c8b0); (try clear c8b1); (try clear c9); (try clear c10); (try clear c11); (try clear c13); (try clear c14); (try clear c16); (try clear c17); (try clear c18); (try clear c20); (try clear c21); (try clear c21b0); (try clear c21b1); (try clear c29); (try clear c30); (try clear c31); (try clear c32); (try clear c33); (try clear c35); (try clear c36); (try clear c37); (try clear c38); (try clear c40); (try clear c40b0); (try clear c42); (try clear c42b0); (try clear c42b1); (try clear c45); (try clear c46); (try clear c47); (try clear c48); (try clear c49); (try clear c51); (try clear c51b0); (try clear c53); (try clear c53b0); (try clear c53b1); (try clear c55); (try clear c56); (try clear c57); (try clear c58); (try clear c59); (try clear hcz12_0); (try clear hcz12_1); (try clear hcz15_0); (try clear hcz15_1); (try clear hcz19_0); (try clear hcz19_1); (try clear hcz34_0); (try clear hcz34_1); (try clear hcz39_0); (try clear hcz39_1); (try clear hcz50_0); (try clear hcz50_1); (try clear hcz60_0); (try clear hcz60_1); (try clear hfz12_0); (try clear hfz12_1); (try clear hfz15_0); (try clear hfz15_1); (try clear hfz19_0); (try clear hfz19_1); (try clear hfz34_0); (try clear hfz34_1); (try clear hfz39_0); (try clear hfz39_1); (try clear hfz50_0); (try clear hfz50_1); (try clear hfz60_0); (try clear hfz60_1); (try clear p2); obtain ⟨kq, x9_43, rfl, HA, HJ43, BK123, BK124, BK125, BK126, BK127, BK128, HB⟩ := hcut
         cases kq with
         | zero => exact absurd HA.out (by simp [r1_Divide.j2])
         | succ kj43 =>
          have H := HA.out; clear HA; simp only [r1_Divide.j2] at H; replace H := Option.bind_eq_some_iff.mp H; obtain ⟨⟨t129, t130⟩, A610, H⟩ := H; (try dsimp only at H); have A61 := Aside0.mk A610; clear A610; replace H := Option.bind_eq_some_iff.mp H; obtain ⟨⟨t131, t132⟩, A620, H⟩ := H; (try dsimp only at H); have A62 := Aside0.mk A620; clear A620; have HC63 := Aside0.mk H; clear H; obtain ⟨hnb64, hnc64⟩ := n2 NB128_123; obtain ⟨hnb65, hnc65⟩ := n2 NB128_124; obtain ⟨hnb66, hnc66⟩ := n2 NB128_125; obtain ⟨hnb67, hnc67⟩ := n2 NB128_126; obtain ⟨hnb68, hnc68⟩ := n2 NB128_127; have hcz69_0 : wc.cell? ⟨gb128, 0, none⟩ = some (.int .u64 x129000_2) := bc BK128 0; have hcz69_1 : wc.cell? ⟨gb128, 1, none⟩ = some (.int .u64 x129001_2) := bc BK128 1; have hfz69_0 := blk_frozen BK128.out 0; have hfz69_1 := blk_frozen BK128.out 1
          go_upto_region 14 with (first | ((with_reducible refine gate_callee (f := 68) rfl ?_); refine gl (some 58) Tryz.func68 #[.agg #[.int .u64 x129000_2, .int .u64 x129001_2]] ?_; (with_reducible refine (r1_Twice.calls x129000_2 x129001_2 t129 t130 _ A61.out).mono ?_); rintro e w70 ⟨rfl, hb⟩; refine ⟨_, rfl, ?_⟩; replace BK123 := kb BK123 hb; replace BK124 := kb BK124 hb; replace BK125 := kb BK125 hb; replace BK126 := kb BK126 hb; replace BK127 := kb BK127 hb; replace BK128 := kb BK128 hb; replace HB := wb HB hb; (try clear hb); (try clear hb2); (try clear hk); (try clear hi); have hcz71_0 : w70.cell? ⟨gb128, 0, none⟩ = some (.int .u64 x129000_2) := bc BK128 0; have hcz71_1 : w70.cell? ⟨gb128, 1, none⟩ = some (.int .u64 x129001_2) := bc BK128 1; have hfz71_0 := blk_frozen BK128.out 0; have hfz71_1 := blk_frozen BK128.out 1; obtain ⟨hnb72, hnc72⟩ := n2 NB127_123; obtain ⟨hnb73, hnc73⟩ := n2 NB127_124; obtain ⟨hnb74, hnc74⟩ := n2 NB127_125; obtain ⟨hnb75, hnc75⟩ := n2 NB127_126; have hcz76_0 : w70.cell? ⟨gb127, 0, none⟩ = some (.int .u64 x128000_2) := bc BK127 0; have hcz76_1 : w70.cell? ⟨gb127, 1, none⟩ = some (.int .u64 x128001_2) := bc BK127 1; have hfz76_0 := blk_frozen BK127.out 0; have hfz76_1 := blk_frozen BK127.out 1) | ((with_reducible refine gate_callee (f := 68) rfl ?_); refine gl (some 65) Tryz.func68 #[.agg #[.int .u64 x128000_2, .int .u64 x128001_2]] ?_; (with_reducible refine (r1_Twice.calls x128000_2 x128001_2 t131 t132 _ A62.out).mono ?_); rintro e w77 ⟨rfl, hb⟩; refine ⟨_, rfl, ?_⟩; replace BK123 := kb BK123 hb; replace BK124 := kb BK124 hb; replace BK125 := kb BK125 hb; replace BK126 := kb BK126 hb; replace BK127 := kb BK127 hb; replace BK128 := Aside0.mk (blk_below (g := gb128) (o := .cells #[.int .u64 t129, .int .u64 (Go.bits .or .u64 t130 x9_43)] 48 (0, 0)) (by refine pe ?_; refine blk_put (cs := #[.int .u64 t129, .int .u64 t130]) ?_ 1 _ rfl; refine pe ?_; refine blk_put (cs := #[.int .u64 t129, .int .u64 x129001_2]) ?_ 1 _ rfl; refine pe ?_; refine blk_put (cs := #[.int .u64 x129000_2, .int .u64 x129001_2]) ?_ 0 _ rfl; refine pe ?_; exact BK128.out) hb); replace HB := wb HB hb; (try clear hb); (try clear hb2); (try clear hk); (try clear hi); have hcz78_0 : w77.cell? ⟨gb127, 0, none⟩ = some (.int .u64 x128000_2) := bc BK127 0; have hcz78_1 : w77.cell? ⟨gb127, 1, none⟩ = some (.int .u64 x128001_2) := bc BK127 1; have hfz78_0 := blk_frozen BK127.out 0; have hfz78_1 := blk_frozen BK127.out 1))
          (try simp only [Act.put, List.setIfInBounds_toArray, List.set_cons_zero, List.set_cons_succ]); have H := HC63.out; clear HC63
          by_cases c79 : (x129000_2 / 9223372036854775808) = 1
          ·rw [if_pos c79] at H; have c79b0 : ((x129000_2 / 9223372036854775808) == 1) = true := beq_iff_eq.mpr c79; have c79b1 : ((x129000_2 / 9223372036854775808) != 1) = false := bne_eq_false_iff_eq.mpr c79; clear c79
           (first | rw [c79b0] | (simp only [i64_w, i32_w]; rw [c79b0]) | skip)
           replace H := Option.bind_eq_some_iff.mp H; obtain ⟨⟨t133, t134⟩, A800, H⟩ := H; (try dsimp only at H); have A80 := Aside0.mk A800; clear A800; have H' := Aside0.mk H; clear H; obtain ⟨hnb81, hnc81⟩ := n2 NB128_123; obtain ⟨hnb82, hnc82⟩ := n2 NB128_124; obtain ⟨hnb83, hnc83⟩ := n2 NB128_125; obtain ⟨hnb84, hnc84⟩ := n2 NB128_126; obtain ⟨hnb85, hnc85⟩ := n2 NB128_127; have hcz86_0 : w77.cell? ⟨gb128, 0, none⟩ = some (.int .u64 t129) := bc BK128 0; have hcz86_1 : w77.cell? ⟨gb128, 1, none⟩ = some (.int .u64 (Go.bits .or .u64 t130 x9_43)) := bc BK128 1; have hfz86_0 := blk_frozen BK128.out 0; have hfz86_1 := blk_frozen BK128.out 1; obtain ⟨hnb87, hnc87⟩ := n2 NB124_123; obtain ⟨hnb88, hnc88⟩ := n2 NB124_125; obtain ⟨hnb89, hnc89⟩ := n2 NB124_126; obtain ⟨hnb90, hnc90⟩ := n2 NB124_127; have hcz91_0 : w77.cell? ⟨gb124, 0, none⟩ = some (.int .u64 a1_0) := bc BK124 0; have hcz91_1 : w77.cell? ⟨gb124, 1, none⟩ = some (.int .u64 a1_1) := bc BK124 1; have hfz91_0 := blk_frozen BK124.out 0; have hfz91_1 := blk_frozen BK124.out 1; go_wp2_with (first | ((with_reducible refine gate_callee (f := 70) rfl ?_); refine gl (some 75) Tryz.func70 #[.agg #[.int .u64 t129, .int .u64 (Go.bits .or .u64 t130 x9_43)], .agg #[.int .u64 a1_0, .int .u64 a1_1]] ?_; (with_reducible refine (r1_Minus.calls t129 (Go.bits .or .u64 t130 x9_43) a1_0 a1_1 t133 t134 _ A80.out).mono ?_); rintro e w92 ⟨rfl, hb⟩; refine ⟨_, rfl, ?_⟩; replace BK123 := kb BK123 hb; replace BK124 := kb BK124 hb; replace BK125 := kb BK125 hb; replace BK126 := kb BK126 hb; replace BK127 := Aside0.mk (blk_below (g := gb127) (o := .cells #[.int .u64 t131, .int .u64 t132] 48 (0, 0)) (by refine pe ?_; refine blk_put (cs := #[.int .u64 t131, .int .u64 x128001_2]) ?_ 1 _ rfl; refine pe ?_; refine blk_put (cs := #[.int .u64 x128000_2, .int .u64 x128001_2]) ?_ 0 _ rfl; refine pe ?_; exact BK127.out) hb); replace BK128 := kb BK128 hb; replace HB := wb HB hb; (try clear hb); (try clear hb2); (try clear hk); (try clear hi); have hcz93_0 : w92.cell? ⟨gb128, 0, none⟩ = some (.int .u64 t129) := bc BK128 0; have hcz93_1 : w92.cell? ⟨gb128, 1, none⟩ = some (.int .u64 (Go.bits .or .u64 t130 x9_43)) := bc BK128 1; have hfz93_0 := blk_frozen BK128.out 0; have hfz93_1 := blk_frozen BK128.out 1; obtain ⟨hnb94, hnc94⟩ := n2 NB127_123; obtain ⟨hnb95, hnc95⟩ := n2 NB127_125; obtain ⟨hnb96, hnc96⟩ := n2 NB127_126; have hcz97_0 : w92.cell? ⟨gb127, 0, none⟩ = some (.int .u64 t131) := bc BK127 0; have hcz97_1 : w92.cell? ⟨gb127, 1, none⟩ = some (.int .u64 t132) := bc BK127 1; have hfz97_0 := blk_frozen BK127.out 0; have hfz97_1 := blk_frozen BK127.out 1))
           go_roundg kj43
           case measure => have := HJ2.out; have := HK2.out; have := HJ43.out; omega
           case rel => exact ⟨(wrap64 (x8_2 - 1)), (t131), (Go.bits .or .u64 t132 1), (t133), (t134), (by first | rfl | (simp; done) | (simp [*]; done)), H', ⟨by have := HJ2.out; have := HK2.out; have := HJ43.out; omega⟩, ⟨bq BK123⟩, ⟨bq BK124⟩, ⟨bq BK125⟩, ⟨bq BK126⟩, ⟨by refine pe ?_; refine blk_put (cs := #[.int .u64 t131, .int .u64 t132]) ?_ 1 _ rfl; refine pe ?_; refine blk_far ?_ NB127_128.out _; refine pe ?_; refine blk_far ?_ NB127_128.out _; refine pe ?_; exact BK127.out⟩, ⟨by refine pe ?_; refine blk_far ?_ NB128_127.out _; refine pe ?_; refine blk_put (cs := #[.int .u64 t133, .int .u64 (Go.bits .or .u64 t130 x9_43)]) ?_ 1 _ rfl; refine pe ?_; refine blk_put (cs := #[.int .u64 t129, .int .u64 (Go.bits .or .u64 t130 x9_43)]) ?_ 0 _ rfl; refine pe ?_; exact BK128.out⟩, ⟨bw HB⟩⟩
          ·rw [if_neg c79] at H; have c79b0 : ((x129000_2 / 9223372036854775808) == 1) = false := beq_eq_false_iff_ne.mpr c79; have c79b1 : ((x129000_2 / 9223372036854775808) != 1) = true := bne_iff_ne.mpr c79
           (first | rw [c79b0] | (simp only [i64_w, i32_w]; rw [c79b0]) | skip)
           replace H := Option.bind_eq_some_iff.mp H; obtain ⟨t135, A980, H⟩ := H; (try dsimp only at H); have A98 := Aside0.mk A980; clear A980
           by_cases c99 : t135 ≥ 0
           ·rw [if_pos c99] at H; have c99b0 : decide (0 ≤ t135) = true := decide_eq_true c99; clear c99; replace H := Option.bind_eq_some_iff.mp H; obtain ⟨⟨t136, t137⟩, A1000, H⟩ := H; (try dsimp only at H); have A100 := Aside0.mk A1000; clear A1000; have H' := Aside0.mk H; clear H; obtain ⟨hnb101, hnc101⟩ := n2 NB128_123; obtain ⟨hnb102, hnc102⟩ := n2 NB128_124; obtain ⟨hnb103, hnc103⟩ := n2 NB128_125; obtain ⟨hnb104, hnc104⟩ := n2 NB128_126; obtain ⟨hnb105, hnc105⟩ := n2 NB128_127; have hcz106_0 : w77.cell? ⟨gb128, 0, none⟩ = some (.int .u64 t129) := bc BK128 0; have hcz106_1 : w77.cell? ⟨gb128, 1, none⟩ = some (.int .u64 (Go.bits .or .u64 t130 x9_43)) := bc BK128 1; have hfz106_0 := blk_frozen BK128.out 0; have hfz106_1 := blk_frozen BK128.out 1; obtain ⟨hnb107, hnc107⟩ := n2 NB124_123; obtain ⟨hnb108, hnc108⟩ := n2 NB124_125; obtain ⟨hnb109, hnc109⟩ := n2 NB124_126; obtain ⟨hnb110, hnc110⟩ := n2 NB124_127; have hcz111_0 : w77.cell? ⟨gb124, 0, none⟩ = some (.int .u64 a1_0) := bc BK124 0; have hcz111_1 : w77.cell? ⟨gb124, 1, none⟩ = some (.int .u64 a1_1) := bc BK124 1; have hfz111_0 := blk_frozen BK124.out 0; have hfz111_1 := blk_frozen BK124.out 1; go_wp2_with (first | (go_at_call 69; (with_reducible refine (r1_Order.calls kj43 t129 (Go.bits .or .u64 t130 x9_43) a1_0 a1_1 t135 _ A98.out).mono ?_); rintro e w112 ⟨rfl, hb⟩; replace BK123 := kb BK123 hb; replace BK124 := kb BK124 hb; replace BK125 := kb BK125 hb; replace BK126 := kb BK126 hb; replace BK127 := Aside0.mk (blk_below (g := gb127) (o := .cells #[.int .u64 t131, .int .u64 t132] 48 (0, 0)) (by refine pe ?_; refine blk_put (cs := #[.int .u64 t131, .int .u64 x128001_2]) ?_ 1 _ rfl; refine pe ?_; refine blk_put (cs := #[.int .u64 x128000_2, .int .u64 x128001_2]) ?_ 0 _ rfl; refine pe ?_; exact BK127.out) hb); replace BK128 := kb BK128 hb; replace HB := wb HB hb; (try clear hb); (try clear hb2); (try clear hk); (try clear hi); have hcz113_0 : w112.cell? ⟨gb128, 0, none⟩ = some (.int .u64 t129) := bc BK128 0; have hcz113_1 : w112.cell? ⟨gb128, 1, none⟩ = some (.int .u64 (Go.bits .or .u64 t130 x9_43)) := bc BK128 1; have hfz113_0 := blk_frozen BK128.out 0; have hfz113_1 := blk_frozen BK128.out 1; have hcz114_0 : w112.cell? ⟨gb124, 0, none⟩ = some (.int .u64 a1_0) := bc BK124 0; have hcz114_1 : w112.cell? ⟨gb124, 1, none⟩ = some (.int .u64 a1_1) := bc BK124 1; have hfz114_0 := blk_frozen BK124.out 0; have hfz114_1 := blk_frozen BK124.out 1) | ((with_reducible refine gate_callee (f := 70) rfl ?_); refine gl (some 75) Tryz.func70 #[.agg #[.int .u64 t129, .int .u64 (Go.bits .or .u64 t130 x9_43)], .agg #[.int .u64 a1_0, .int .u64 a1_1]] ?_; (with_reducible refine (r1_Minus.calls t129 (Go.bits .or .u64 t130 x9_43) a1_0 a1_1 t136 t137 _ A100.out).mono ?_); rintro e w115 ⟨rfl, hb⟩; refine ⟨_, rfl, ?_⟩; replace BK123 := kb BK123 hb; replace BK124 := kb BK124 hb; replace BK125 := kb BK125 hb; replace BK126 := kb BK126 hb; replace BK127 := kb BK127 hb; replace BK128 := kb BK128 hb; replace HB := wb HB hb; (try clear hb); (try clear hb2); (try clear hk); (try clear hi); have hcz116_0 : w115.cell? ⟨gb128, 0, none⟩ = some (.int .u64 t129) := bc BK128 0; have hcz116_1 : w115.cell? ⟨gb128, 1, none⟩ = some (.int .u64 (Go.bits .or .u64 t130 x9_43)) := bc BK128 1; have hfz116_0 := blk_frozen BK128.out 0; have hfz116_1 := blk_frozen BK128.out 1; obtain ⟨hnb117, hnc117⟩ := n2 NB127_123; obtain ⟨hnb118, hnc118⟩ := n2 NB127_125; obtain ⟨hnb119, hnc119⟩ := n2 NB127_126; have hcz120_0 : w115.cell? ⟨gb127, 0, none⟩ = some (.int .u64 t131) := bc BK127 0; have hcz120_1 : w115.cell? ⟨gb127, 1, none⟩ = some (.int .u64 t132) := bc BK127 1; have hfz120_0 := blk_frozen BK127.out 0; have hfz120_1 := blk_frozen BK127.out 1))
            go_roundg kj43
            case measure => have := HJ2.out; have := HK2.out; have := HJ43.out; omega
            case rel => exact ⟨(wrap64 (x8_2 - 1)), (t131), (Go.bits .or .u64 t132 1), (t136), (t137), (by first | rfl | (simp; done) | (simp [*]; done)), H', ⟨by have := HJ2.out; have := HK2.out; have := HJ43.out; omega⟩, ⟨bq BK123⟩, ⟨bq BK124⟩, ⟨bq BK125⟩, ⟨bq BK126⟩, ⟨by refine pe ?_; refine blk_put (cs := #[.int .u64 t131, .int .u64 t132]) ?_ 1 _ rfl; refine pe ?_; refine blk_far ?_ NB127_128.out _; refine pe ?_; refine blk_far ?_ NB127_128.out _; refine pe ?_; exact BK127.out⟩, ⟨by refine pe ?_; refine blk_far ?_ NB128_127.out _; refine pe ?_; refine blk_put (cs := #[.int .u64 t136, .int .u64 (Go.bits .or .u64 t130 x9_43)]) ?_ 1 _ rfl; refine pe ?_; refine blk_put (cs := #[.int .u64 t129, .int .u64 (Go.bits .or .u64 t130 x9_43)]) ?_ 0 _ rfl; refine pe ?_; exact BK128.out⟩, ⟨bw HB⟩⟩
           ·rw [if_neg c99] at H; have c99b0 : decide (0 ≤ t135) = false := decide_eq_false c99; clear c99; have H' := Aside0.mk H; clear H; obtain ⟨hnb121, hnc121⟩ := n2 NB128_123; obtain ⟨hnb122, hnc122⟩ := n2 NB128_124; obtain ⟨hnb123, hnc123⟩ := n2 NB128_125; obtain ⟨hnb124, hnc124⟩ := n2 NB128_126; obtain ⟨hnb125, hnc125⟩ := n2 NB128_127; have hcz126_0 : w77.cell? ⟨gb128, 0, none⟩ = some (.int .u64 t129) := bc BK128 0; have hcz126_1 : w77.cell? ⟨gb128, 1, none⟩ = some (.int .u64 (Go.bits .or .u64 t130 x9_43)) := bc BK128 1; have hfz126_0 := blk_frozen BK128.out 0; have hfz126_1 := blk_frozen BK128.out 1; obtain ⟨hnb127, hnc127⟩ := n2 NB124_123; obtain ⟨hnb128, hnc128⟩ := n2 NB124_125; obtain ⟨hnb129, hnc129⟩ := n2 NB124_126; obtain ⟨hnb130, hnc130⟩ := n2 NB124_127; have hcz131_0 : w77.cell? ⟨gb124, 0, none⟩ = some (.int .u64 a1_0) := bc BK124 0; have hcz131_1 : w77.cell? ⟨gb124, 1, none⟩ = some (.int .u64 a1_1) := bc BK124 1; have hfz131_0 := blk_frozen BK124.out 0; have hfz131_1 := blk_frozen BK124.out 1; go_wp2_with (first | (go_at_call 69; (with_reducible refine (r1_Order.calls kj43 t129 (Go.bits .or .u64 t130 x9_43) a1_0 a1_1 t135 _ A98.out).mono ?_); rintro e w132 ⟨rfl, hb⟩; replace BK123 := kb BK123 hb; replace BK124 := kb BK124 hb; replace BK125 := kb BK125 hb; replace BK126 := kb BK126 hb; replace BK127 := Aside0.mk (blk_below (g := gb127) (o := .cells #[.int .u64 t131, .int .u64 t132] 48 (0, 0)) (by refine pe ?_; refine blk_put (cs := #[.int .u64 t131, .int .u64 x128001_2]) ?_ 1 _ rfl; refine pe ?_; refine blk_put (cs := #[.int .u64 x128000_2, .int .u64 x128001_2]) ?_ 0 _ rfl; refine pe ?_; exact BK127.out) hb); replace BK128 := kb BK128 hb; replace HB := wb HB hb; (try clear hb); (try clear hb2); (try clear hk); (try clear hi)))
            go_roundg kj43
            case measure => have := HJ2.out; have := HK2.out; have := HJ43.out; omega
            case rel => exact ⟨(wrap64 (x8_2 - 1)), (t131), (t132), (t129), (Go.bits .or .u64 t130 x9_43), (by first | rfl | (simp; done) | (simp [*]; done)), H', ⟨by have := HJ2.out; have := HK2.out; have := HJ43.out; omega⟩, ⟨bq BK123⟩, ⟨bq BK124⟩, ⟨bq BK125⟩, ⟨bq BK126⟩, ⟨bq BK127⟩, ⟨bq BK128⟩, ⟨bw HB⟩⟩
       ·rw [if_neg c42] at H; exact absurd H (by simp)
      ·rw [if_neg c40] at H; have c40b0 : decide (0 ≤ x8_2) = false := decide_eq_false c40; clear c40; simp only [Option.some.injEq, Prod.mk.injEq] at H; obtain ⟨rfl, rfl, rfl, rfl⟩ := H; (try go_wp2); have n0_ := Aside0.mk (blk_drew BK123.out); have n1_ := Aside0.mk (blk_drew BK124.out); have n2_ := Aside0.mk (blk_drew BK125.out); have n3_ := Aside0.mk (blk_drew BK126.out); have n4_ := Aside0.mk (blk_drew BK127.out); have n5_ := Aside0.mk (blk_drew BK128.out); have n6_ := Aside0.mk (below_drew1 HB.out); clear BK123; clear BK124; clear BK125; clear BK126; clear BK127; clear BK128; clear HB; have BK123 := n0_; have BK124 := n1_; have BK125 := n2_; have BK126 := n3_; have BK127 := n4_; have BK128 := n5_; have HB := n6_; clear n0_ n1_ n2_ n3_ n4_ n5_ n6_; refine start_ (n := 4) (S := fun w' => w'.cell? ⟨gb127, 0, none⟩ = some (.int .u64 x128000_2) ∧ w'.cell? ⟨gb127, 1, none⟩ = some (.int .u64 x128001_2) ∧ w'.cell? ⟨gb128, 0, none⟩ = some (.int .u64 x129000_2) ∧ w'.cell? ⟨gb128, 1, none⟩ = some (.int .u64 x129001_2)) (ds := []) #[false, false, false, false] (by kernel_rfl) rfl rfl ⟨bc BK127 0, bc BK127 1, bc BK128 0, bc BK128 1⟩ (fun hHeld => ?_); (generalize wr.drew = w133 at BK123 BK124 BK125 BK126 BK127 BK128 HB hHeld ⊢); refine take_ (i := 0) (N := some 80) (v := ?_) (a' := ?_) #[true, false, false, false] rfl rfl (by kernel_rfl) (fun _ _ _ h => h) (Or.inl ⟨by rfl, ?_⟩) hHeld ?_ ?_; rotate_left
       ·rintro w' ⟨s0, s1, s2, s3⟩; (go_simp); with_reducible rfl
       rotate_left
       ·simp only [Act.put, List.setIfInBounds_toArray, List.set_cons_zero, List.set_cons_succ, i64_w, i32_w]; rfl
       refine take_ (i := 1) (N := some 81) (v := ?_) (a' := ?_) #[true, true, false, false] rfl rfl (by kernel_rfl) (fun _ _ _ h => h) (Or.inl ⟨by rfl, ?_⟩) hHeld ?_ ?_; rotate_left
       ·rintro w' ⟨s0, s1, s2, s3⟩; (go_simp); with_reducible rfl
       rotate_left
       ·simp only [Act.put, List.setIfInBounds_toArray, List.set_cons_zero, List.set_cons_succ, i64_w, i32_w]; rfl
       refine one_ (i := 2) (N := none) #[true, true, true, false] rfl rfl (by kernel_rfl) (by decide) (fun K hK => ?_); have hs134 : w133.cell? ⟨gb125, 0, none⟩ = some (.int .u64 0) := bc BK125 0; have hfs134 := blk_frozen BK125.out 0; have hns134_0 := NB123_125.out; have hns134_1 := NB124_125.out; have hns134_3 := NB126_125.out; have hns134_4 := NB127_125.out; have hns134_5 := NB128_125.out; have hms134_0 := NB125_123.out; have hms134_1 := NB125_124.out; have hms134_3 := NB125_126.out; have hms134_4 := NB125_127.out; have hms134_5 := NB125_128.out; have hs135 : w133.cell? ⟨gb125, 1, none⟩ = some (.int .u64 0) := bc BK125 1; have hfs135 := blk_frozen BK125.out 1; have hns135_0 := NB123_125.out; have hns135_1 := NB124_125.out; have hns135_3 := NB126_125.out; have hns135_4 := NB127_125.out; have hns135_5 := NB128_125.out; have hms135_0 := NB125_123.out; have hms135_1 := NB125_124.out; have hms135_3 := NB125_126.out; have hms135_4 := NB125_127.out; have hms135_5 := NB125_128.out; refine skip_ (w1 := ?_) (by rfl) rfl ?_ ?_; rotate_left
       ·(go_simp); rfl
       refine hK.out _ _ ⟨((cell_far (p := ⟨gb125, _, none⟩) NB127_125.out _).trans (((cell_far (p := ⟨gb125, _, none⟩) NB127_125.out _).trans (hHeld.1)))), ((cell_far (p := ⟨gb125, _, none⟩) NB127_125.out _).trans (((cell_far (p := ⟨gb125, _, none⟩) NB127_125.out _).trans (hHeld.2.1)))), ((cell_far (p := ⟨gb125, _, none⟩) NB128_125.out _).trans (((cell_far (p := ⟨gb125, _, none⟩) NB128_125.out _).trans (hHeld.2.2.1)))), ((cell_far (p := ⟨gb125, _, none⟩) NB128_125.out _).trans (((cell_far (p := ⟨gb125, _, none⟩) NB128_125.out _).trans (hHeld.2.2.2))))⟩ (fun hHeld => ?_); clear hK K; refine one_ (i := 3) (N := none) #[true, true, true, true] rfl rfl (by kernel_rfl) (by decide) (fun K hK => ?_); have hs136 : w133.cell? ⟨gb126, 0, none⟩ = some (.int .u64 0) := bc BK126 0; have hfs136 := blk_frozen BK126.out 0; have hns136_0 := NB123_126.out; have hns136_1 := NB124_126.out; have hns136_2 := NB125_126.out; have hns136_4 := NB127_126.out; have hns136_5 := NB128_126.out; have hms136_0 := NB126_123.out; have hms136_1 := NB126_124.out; have hms136_2 := NB126_125.out; have hms136_4 := NB126_127.out; have hms136_5 := NB126_128.out; have hs137 : w133.cell? ⟨gb126, 1, none⟩ = some (.int .u64 0) := bc BK126 1; have hfs137 := blk_frozen BK126.out 1; have hns137_0 := NB123_126.out; have hns137_1 := NB124_126.out; have hns137_2 := NB125_126.out; have hns137_4 := NB127_126.out; have hns137_5 := NB128_126.out; have hms137_0 := NB126_123.out; have hms137_1 := NB126_124.out; have hms137_2 := NB126_125.out; have hms137_4 := NB126_127.out; have hms137_5 := NB126_128.out; refine skip_ (w1 := ?_) (by rfl) rfl ?_ ?_; rotate_left
       ·(go_simp); rfl
       refine hK.out _ _ ⟨((cell_far (p := ⟨gb126, _, none⟩) NB127_126.out _).trans (((cell_far (p := ⟨gb126, _, none⟩) NB127_126.out _).trans (hHeld.1)))), ((cell_far (p := ⟨gb126, _, none⟩) NB127_126.out _).trans (((cell_far (p := ⟨gb126, _, none⟩) NB127_126.out _).trans (hHeld.2.1)))), ((cell_far (p := ⟨gb126, _, none⟩) NB128_126.out _).trans (((cell_far (p := ⟨gb126, _, none⟩) NB128_126.out _).trans (hHeld.2.2.1)))), ((cell_far (p := ⟨gb126, _, none⟩) NB128_126.out _).trans (((cell_far (p := ⟨gb126, _, none⟩) NB128_126.out _).trans (hHeld.2.2.2))))⟩ (fun hHeld => ?_); clear hK K; refine done_ (by kernel_rfl) ?_; (try go_wp2); refine bodyPost_ret (results_cc rfl _ _ gb125 gb126 48 48 #[.int .u64 x128000_2, .int .u64 x128001_2] #[.int .u64 x129000_2, .int .u64 x129001_2] (0, 0) (0, 0) _ _ rfl (by refine pe ?_; refine blk_far ?_ NB125_126.out _; refine pe ?_; refine blk_far ?_ NB125_126.out _; refine pe ?_; refine blk_put (cs := #[.int .u64 x128000_2, .int .u64 0]) ?_ 1 _ rfl; refine pe ?_; refine blk_put (cs := #[.int .u64 0, .int .u64 0]) ?_ 0 _ rfl; refine pe ?_; exact BK125.out) Tryz.underlying48 rfl (by kernel_rfl) rfl (by refine pe ?_; refine blk_put (cs := #[.int .u64 x129000_2, .int .u64 0]) ?_ 1 _ rfl; refine pe ?_; refine blk_put (cs := #[.int .u64 0, .int .u64 0]) ?_ 0 _ rfl; refine pe ?_; refine blk_far ?_ NB126_125.out _; refine pe ?_; refine blk_far ?_ NB126_125.out _; refine pe ?_; exact BK126.out) Tryz.underlying48 rfl (by kernel_rfl)) rfl ?_; exact ⟨by first | rfl | (simp [errW_none, errW_some] <;> rfl) | (simp [*, errW_none, errW_some] <;> rfl), bw HB⟩

end Go.Proofs.YtbapkiclgkddcaaGreatDoor.G

-- Printed by gp.py (a program of this session's own, over the kit's printer) out of the translation; Lean checks it.
namespace Go.Proofs.YtbapkiclgkddcaaGreatDoor.G
open Go.Proofs.YtbapkiclgkddcaaGreatDoor.Given Go.Proofs.YtbapkiclgkddcaaGreatDoor.Short
open Go.RowKit Go.Proofs.YtbapkiclgkddcaaGreatDoorW.PrintWords Go.Proofs.YtbapkiclgkddcaaGreatDoorW.PrintLast Go.Proofs.YtbapkiclgkddcaaGreatDoorW.PrintMore
attribute [local go_sem] max2_int min2_int max_two min_two max_three min_three max_four min_four   -- for this text's walks alone
set_option linter.unusedVariables false
set_option linter.unusedSimpArgs false

attribute [local go_sem high] eqA48
/-! ### r1_Divisor: function 32 -/
def r1_Divisor.l0 : Nat → Int → Int → Int → Int → Option (Int × Int)
 | 0, _, _, _, _ => none
 | k + 1, x139000, x139001, x140000, x140001 => if (!(x140000 == 0) || (!(x140001 == 0))) = true then ((r1_Divide.f k x139000 x139001 x140000 x140001).bind fun bt141 => (r1_Divisor.l0 k x140000 x140001 bt141.2.2.1 bt141.2.2.2)) else (some (x139000, x139001))
def r1_Divisor.f (k : Nat) (a0_0 : Int) (a0_1 : Int) (a1_0 : Int) (a1_1 : Int) : Option (Int × Int) := r1_Divisor.l0 k a0_0 a0_1 a1_0 a1_1
theorem r1_Divisor.mono_l : ∀ k, (∀ y0 y1 y2 y3, LeO (r1_Divisor.l0 k y0 y1 y2 y3) (r1_Divisor.l0 (k + 1) y0 y1 y2 y3))
 | 0 => fun _ _ _ _ r h => by simp [r1_Divisor.l0] at h
 | k + 1 => by
  have ih0 := r1_Divisor.mono_l k
  ·intro y0 y1 y2 y3; unfold r1_Divisor.l0
   repeat' first
   | (with_reducible exact ih0 _ _ _ _)
   | (with_reducible exact r1_Divide.mono _ _ _ _ _)
   | (with_reducible exact LeO.refl _)
   | (with_reducible exact LeO.none _)
   | (with_reducible refine LeO.ite ?_ ?_)
   | (with_reducible refine LeO.bind ?_ (fun _ => ?_))
   | exact ih0 _ _ _ _
   | exact r1_Divide.mono _ _ _ _ _
   | exact LeO.none _
   | refine LeO.ite ?_ ?_
   | refine LeO.bind ?_ (fun _ => ?_)
theorem r1_Divisor.mono : ∀ a0 a1 a2 a3 k, LeO (r1_Divisor.f k a0 a1 a2 a3) (r1_Divisor.f (k + 1) a0 a1 a2 a3) := by
 intro a0 a1 a2 a3 k; have ih0 := r1_Divisor.mono_l k; unfold r1_Divisor.f
 repeat' first
   | (with_reducible exact ih0 _ _ _ _)
   | (with_reducible exact r1_Divide.mono _ _ _ _ _)
   | (with_reducible exact LeO.refl _)
   | (with_reducible exact LeO.none _)
   | (with_reducible refine LeO.ite ?_ ?_)
   | (with_reducible refine LeO.bind ?_ (fun _ => ?_))
   | exact ih0 _ _ _ _
   | exact r1_Divide.mono _ _ _ _ _
   | exact LeO.none _
   | refine LeO.ite ?_ ?_
   | refine LeO.bind ?_ (fun _ => ?_)
set_option maxHeartbeats 8000000 in
set_option maxRecDepth 100000 in
theorem r1_Divisor.calls (k : Nat) (a0_0 : Int) (a0_1 : Int) (a1_0 : Int) (a1_1 : Int) (r1 : Int) (r2 : Int) (w : World) (h : r1_Divisor.f k a0_0 a0_1 a1_0 a1_1 = some (r1, r2)) :
  Calls Tryz.prog 32 #[.agg #[.int .u64 a0_0, .int .u64 a0_1], .agg #[.int .u64 a1_0, .int .u64 a1_1]] w fun e w' => e = .returned (.agg #[.int .u64 r1, .int .u64 r2]) ∧ Below w.heap.size w w' := by
 have hu48 := Tryz.underlying48; have HB := Aside0.mk (Below.refl w.heap.size w); have H : (r1_Divisor.l0 k a0_0 a0_1 a1_0 a1_1) = some (r1, r2) := h; clear h; have H' := Aside0.mk H; clear H; (go_enter Tryz.func32, Tryz.ntmps32); (go_wp2_with (first | ((with_reducible refine gate_dst (N := 2) rfl ?_); refine bx (N := 2) (cs := #[.int .u64 a0_0, .int .u64 a0_1]) (t := 48) ?_; intro gb138 hg w3 hbox hb; have BK138 := Aside0.mk (hbox); have GW138 := gs HB hg; have GE138 := gs HB hg; replace HB := wb HB hb; clear hb hbox hg) | ((with_reducible refine gate_dst (N := 3) rfl ?_); refine bx (N := 3) (cs := #[.int .u64 a1_0, .int .u64 a1_1]) (t := 48) ?_; intro gb139 hg w4 hbox hb; have BK139 := Aside0.mk (hbox); have GW139 := gs HB hg; have GE139 := gs HB hg; have NB138_139 := nl BK138 hg; have NB139_138 := nr BK138 hg; replace BK138 := kb BK138 hb; replace HB := wb HB hb; clear hb hbox hg) | ((with_reducible refine gate_dst (N := 4) rfl ?_); refine bx (N := 4) (cs := #[.int .u64 0, .int .u64 0]) (t := 48) ?_; intro gb140 hg w5 hbox hb; have BK140 := Aside0.mk (hbox); have GW140 := gs HB hg; have GE140 := gs HB hg; have NB138_140 := nl BK138 hg; have NB140_138 := nr BK138 hg; have NB139_140 := nl BK139 hg; have NB140_139 := nr BK139 hg; replace BK138 := kb BK138 hb; replace BK139 := kb BK139 hb; replace HB := wb HB hb; clear hb hbox hg))); (try simp only [Act.put, List.setIfInBounds_toArray, List.set_cons_zero, List.set_cons_succ])
 go_loopg [] k (fun kq w' => ∃ (x139000_1 : Int) (x139001_1 : Int) (x140000_1 : Int) (x140001_1 : Int), Aside0 (r1_Divisor.l0 kq x139000_1 x139001_1 x140000_1 x140001_1 = some (r1, r2)) ∧ Aside0 (kq ≤ k) ∧ Aside0 (w'.heap[gb138]? = some (.cells #[.int .u64 x139000_1, .int .u64 x139001_1] 48 (0, 0))) ∧ Aside0 (w'.heap[gb139]? = some (.cells #[.int .u64 x140000_1, .int .u64 x140001_1] 48 (0, 0))) ∧ Aside0 (w'.heap[gb140]? = some (.cells #[.int .u64 0, .int .u64 0] 48 (0, 0))) ∧ Aside0 (Below w.heap.size w w'))
 case atStart => exact ⟨(a0_0), (a0_1), (a1_0), (a1_1), H', ⟨Nat.le_refl _⟩, ⟨bq BK138⟩, ⟨bq BK139⟩, ⟨bq BK140⟩, ⟨bw HB⟩⟩
 case round =>
  clear H'; (try clear p2); (try clear c3); obtain ⟨x139000_1, x139001_1, x140000_1, x140001_1, HA, HK1, BK138, BK139, BK140, HB⟩ := hrel
  cases gk with
  | zero => exact absurd HA.out (by simp [r1_Divisor.l0])
  | succ k1 =>
   have H := HA.out; clear HA; simp only [r1_Divisor.l0] at H
   by_cases c6 : (!(x140000_1 == 0) || (!(x140001_1 == 0))) = true
   ·rw [if_pos c6] at H; have c6b0 : (!(x140000_1 == 0) || (!(x140001_1 == 0))) = true := c6; clear c6; replace H := Option.bind_eq_some_iff.mp H; obtain ⟨⟨t141, t142, t143, t144⟩, A70, H⟩ := H; (try dsimp only at H); have A7 := Aside0.mk A70; clear A70; have H' := Aside0.mk H; clear H; obtain ⟨hnb8, hnc8⟩ := n2 NB139_138; obtain ⟨hnb9, hnc9⟩ := n2 NB139_140; have hcz10_0 : wr.cell? ⟨gb139, 0, none⟩ = some (.int .u64 x140000_1) := bc BK139 0; have hcz10_1 : wr.cell? ⟨gb139, 1, none⟩ = some (.int .u64 x140001_1) := bc BK139 1; have hfz10_0 := blk_frozen BK139.out 0; have hfz10_1 := blk_frozen BK139.out 1; obtain ⟨hnb11, hnc11⟩ := n2 NB138_140; have hcz12_0 : wr.cell? ⟨gb138, 0, none⟩ = some (.int .u64 x139000_1) := bc BK138 0; have hcz12_1 : wr.cell? ⟨gb138, 1, none⟩ = some (.int .u64 x139001_1) := bc BK138 1; have hfz12_0 := blk_frozen BK138.out 0; have hfz12_1 := blk_frozen BK138.out 1; (try go_wp2_with (first | ((with_reducible refine gate_callee (f := 46) rfl ?_); refine gl (some 13) Tryz.func46 #[.agg #[.int .u64 x139000_1, .int .u64 x139001_1], .agg #[.int .u64 x140000_1, .int .u64 x140001_1]] ?_; (with_reducible refine (r1_Divide.calls k1 x139000_1 x139001_1 x140000_1 x140001_1 t141 t142 t143 t144 _ A7.out).mono ?_); rintro e w13 ⟨rfl, hb⟩; refine ⟨_, rfl, ?_⟩; replace BK138 := kb BK138 hb; replace BK139 := kb BK139 hb; replace BK140 := kb BK140 hb; replace HB := wb HB hb; (try clear hb); (try clear hb2); (try clear hk); (try clear hi)) | ((with_reducible refine gate_dst (N := 5) rfl ?_); refine bx (N := 5) (cs := #[.int .u64 0, .int .u64 0]) (t := 48) ?_; intro gb145 hg w14 hbox hb; have BK145 := Aside0.mk (hbox); have GW145 := gs HB hg; have GE145 := gs HB hg; have NB138_145 := nl BK138 hg; have NB145_138 := nr BK138 hg; have NB139_145 := nl BK139 hg; have NB145_139 := nr BK139 hg; have NB140_145 := nl BK140 hg; have NB145_140 := nr BK140 hg; replace BK138 := kb BK138 hb; replace BK139 := kb BK139 hb; replace BK140 := kb BK140 hb; replace HB := wb HB hb; clear hb hbox hg) | ((with_reducible refine gate_dst (N := 6) rfl ?_); refine bx (N := 6) (cs := #[.int .u64 0, .int .u64 0]) (t := 48) ?_; intro gb146 hg w15 hbox hb; have BK146 := Aside0.mk (hbox); have GW146 := gs HB hg; have GE146 := gs HB hg; have NB138_146 := nl BK138 hg; have NB146_138 := nr BK138 hg; have NB139_146 := nl BK139 hg; have NB146_139 := nr BK139 hg; have NB140_146 := nl BK140 hg; have NB146_140 := nr BK140 hg; have NB145_146 := nl BK145 hg; have NB146_145 := nr BK145 hg; replace BK138 := kb BK138 hb; replace BK139 := kb BK139 hb; replace BK140 := kb BK140 hb; replace BK145 := kb BK145 hb; replace HB := wb HB hb; clear hb hbox hg; obtain ⟨hnb16, hnc16⟩ := n2 NB145_138; obtain ⟨hnb17, hnc17⟩ := n2 NB145_139; obtain ⟨hnb18, hnc18⟩ := n2 NB145_140; obtain ⟨hnb19, hnc19⟩ := n2 NB145_146; have hcz20_0 : w15.cell? ⟨gb145, 0, none⟩ = some (.int .u64 0) := bc BK145 0; have hcz20_1 : w15.cell? ⟨gb145, 1, none⟩ = some (.int .u64 0) := bc BK145 1; have hfz20_0 := blk_frozen BK145.out 0; have hfz20_1 := blk_frozen BK145.out 1; obtain ⟨hnb21, hnc21⟩ := n2 NB146_138; obtain ⟨hnb22, hnc22⟩ := n2 NB146_139; obtain ⟨hnb23, hnc23⟩ := n2 NB146_140; have hcz24_0 : w15.cell? ⟨gb146, 0, none⟩ = some (.int .u64 0) := bc BK146 0; have hcz24_1 : w15.cell? ⟨gb146, 1, none⟩ = some (.int .u64 0) := bc BK146 1; have hfz24_0 := blk_frozen BK146.out 0; have hfz24_1 := blk_frozen BK146.out 1))); have n0_ : Aside0 (((((w15.setCell ⟨gb145, 0, none⟩ (.int .u64 t141)).setCell ⟨gb145, 1, none⟩ (.int .u64 t142)).setCell ⟨gb146, 0, none⟩ (.int .u64 t143)).setCell ⟨gb146, 1, none⟩ (.int .u64 t144)).heap[gb138]? = some (.cells #[.int .u64 x139000_1, .int .u64 x139001_1] 48 (0, 0))) := ⟨bq BK138⟩; have n1_ : Aside0 (((((w15.setCell ⟨gb145, 0, none⟩ (.int .u64 t141)).setCell ⟨gb145, 1, none⟩ (.int .u64 t142)).setCell ⟨gb146, 0, none⟩ (.int .u64 t143)).setCell ⟨gb146, 1, none⟩ (.int .u64 t144)).heap[gb139]? = some (.cells #[.int .u64 x140000_1, .int .u64 x140001_1] 48 (0, 0))) := ⟨bq BK139⟩; have n2_ : Aside0 (((((w15.setCell ⟨gb145, 0, none⟩ (.int .u64 t141)).setCell ⟨gb145, 1, none⟩ (.int .u64 t142)).setCell ⟨gb146, 0, none⟩ (.int .u64 t143)).setCell ⟨gb146, 1, none⟩ (.int .u64 t144)).heap[gb140]? = some (.cells #[.int .u64 0, .int .u64 0] 48 (0, 0))) := ⟨bq BK140⟩; have n3_ : Aside0 (((((w15.setCell ⟨gb145, 0, none⟩ (.int .u64 t141)).setCell ⟨gb145, 1, none⟩ (.int .u64 t142)).setCell ⟨gb146, 0, none⟩ (.int .u64 t143)).setCell ⟨gb146, 1, none⟩ (.int .u64 t144)).heap[gb145]? = some (.cells #[.int .u64 t141, .int .u64 t142] 48 (0, 0))) := ⟨by refine pe ?_; refine blk_far ?_ NB145_146.out _; refine pe ?_; refine blk_far ?_ NB145_146.out _; refine pe ?_; refine blk_put (cs := #[.int .u64 t141, .int .u64 0]) ?_ 1 _ rfl; refine pe ?_; refine blk_put (cs := #[.int .u64 0, .int .u64 0]) ?_ 0 _ rfl; refine pe ?_; exact BK145.out⟩; have n4_ : Aside0 (((((w15.setCell ⟨gb145, 0, none⟩ (.int .u64 t141)).setCell ⟨gb145, 1, none⟩ (.int .u64 t142)).setCell ⟨gb146, 0, none⟩ (.int .u64 t143)).setCell ⟨gb146, 1, none⟩ (.int .u64 t144)).heap[gb146]? = some (.cells #[.int .u64 t143, .int .u64 t144] 48 (0, 0))) := ⟨by refine pe ?_; refine blk_put (cs := #[.int .u64 t143, .int .u64 0]) ?_ 1 _ rfl; refine pe ?_; refine blk_put (cs := #[.int .u64 0, .int .u64 0]) ?_ 0 _ rfl; refine pe ?_; refine blk_far ?_ NB146_145.out _; refine pe ?_; refine blk_far ?_ NB146_145.out _; refine pe ?_; exact BK146.out⟩; have n5_ : Aside0 (Below w.heap.size w ((((w15.setCell ⟨gb145, 0, none⟩ (.int .u64 t141)).setCell ⟨gb145, 1, none⟩ (.int .u64 t142)).setCell ⟨gb146, 0, none⟩ (.int .u64 t143)).setCell ⟨gb146, 1, none⟩ (.int .u64 t144))) := ⟨bw HB⟩; (try clear BK138); (try clear BK139); (try clear BK140); (try clear BK145); (try clear BK146); (try clear HB); (generalize ((((w15.setCell ⟨gb145, 0, none⟩ (.int .u64 t141)).setCell ⟨gb145, 1, none⟩ (.int .u64 t142)).setCell ⟨gb146, 0, none⟩ (.int .u64 t143)).setCell ⟨gb146, 1, none⟩ (.int .u64 t144)) = w25 at n0_ n1_ n2_ n3_ n4_ n5_ ⊢); have BK138 := n0_; have BK139 := n1_; have BK140 := n2_; have BK145 := n3_; have BK146 := n4_; have HB := n5_; clear n0_ n1_ n2_ n3_ n4_ n5_; have n0_ := Aside0.mk (blk_drew BK138.out); have n1_ := Aside0.mk (blk_drew BK139.out); have n2_ := Aside0.mk (blk_drew BK140.out); have n3_ := Aside0.mk (blk_drew BK145.out); have n4_ := Aside0.mk (blk_drew BK146.out); have n5_ := Aside0.mk (below_drew1 HB.out); clear BK138; clear BK139; clear BK140; clear BK145; clear BK146; clear HB; have BK138 := n0_; have BK139 := n1_; have BK140 := n2_; have BK145 := n3_; have BK146 := n4_; have HB := n5_; clear n0_ n1_ n2_ n3_ n4_ n5_; refine start_ (n := 4) (S := fun w' => w'.cell? ⟨gb139, 0, none⟩ = some (.int .u64 x140000_1) ∧ w'.cell? ⟨gb139, 1, none⟩ = some (.int .u64 x140001_1) ∧ w'.cell? ⟨gb146, 0, none⟩ = some (.int .u64 t143) ∧ w'.cell? ⟨gb146, 1, none⟩ = some (.int .u64 t144)) (ds := [3]) #[false, false, false, false] (by kernel_rfl) rfl rfl ⟨bc BK139 0, bc BK139 1, bc BK146 0, bc BK146 1⟩ (fun hHeld => ?_); (generalize w25.drew = w26 at BK138 BK139 BK140 BK145 BK146 HB hHeld ⊢); refine take_ (i := 0) (N := some 16) (v := ?_) (a' := ?_) #[true, false, false, false] rfl rfl (by kernel_rfl) (fun _ _ _ h => h) (Or.inl ⟨by rfl, ?_⟩) hHeld ?_ ?_; rotate_left
    ·rintro w' ⟨s0, s1, s2, s3⟩; (go_simp); with_reducible rfl
    rotate_left
    ·simp only [Act.put, List.setIfInBounds_toArray, List.set_cons_zero, List.set_cons_succ, i64_w, i32_w]; rfl
    refine take_ (i := 1) (N := some 17) (v := ?_) (a' := ?_) #[true, true, false, false] rfl rfl (by kernel_rfl) (fun _ _ _ h => h) (Or.inl ⟨by rfl, ?_⟩) hHeld ?_ ?_; rotate_left
    ·rintro w' ⟨s0, s1, s2, s3⟩; (go_simp); with_reducible rfl
    rotate_left
    ·simp only [Act.put, List.setIfInBounds_toArray, List.set_cons_zero, List.set_cons_succ, i64_w, i32_w]; rfl
    refine one_ (i := 2) (N := none) #[true, true, true, false] rfl rfl (by kernel_rfl) (by decide) (fun K hK => ?_); have hs27 : w26.cell? ⟨gb138, 0, none⟩ = some (.int .u64 x139000_1) := bc BK138 0; have hfs27 := blk_frozen BK138.out 0; have hns27_1 := NB139_138.out; have hns27_2 := NB140_138.out; have hns27_3 := NB145_138.out; have hns27_4 := NB146_138.out; have hms27_1 := NB138_139.out; have hms27_2 := NB138_140.out; have hms27_3 := NB138_145.out; have hms27_4 := NB138_146.out; have hs28 : w26.cell? ⟨gb138, 1, none⟩ = some (.int .u64 x139001_1) := bc BK138 1; have hfs28 := blk_frozen BK138.out 1; have hns28_1 := NB139_138.out; have hns28_2 := NB140_138.out; have hns28_3 := NB145_138.out; have hns28_4 := NB146_138.out; have hms28_1 := NB138_139.out; have hms28_2 := NB138_140.out; have hms28_3 := NB138_145.out; have hms28_4 := NB138_146.out; refine skip_ (w1 := ?_) (by rfl) rfl ?_ ?_; rotate_left
    ·(go_simp); rfl
    refine hK.out _ _ ⟨((cell_far (p := ⟨gb138, _, none⟩) NB139_138.out _).trans (((cell_far (p := ⟨gb138, _, none⟩) NB139_138.out _).trans (hHeld.1)))), ((cell_far (p := ⟨gb138, _, none⟩) NB139_138.out _).trans (((cell_far (p := ⟨gb138, _, none⟩) NB139_138.out _).trans (hHeld.2.1)))), ((cell_far (p := ⟨gb138, _, none⟩) NB146_138.out _).trans (((cell_far (p := ⟨gb138, _, none⟩) NB146_138.out _).trans (hHeld.2.2.1)))), ((cell_far (p := ⟨gb138, _, none⟩) NB146_138.out _).trans (((cell_far (p := ⟨gb138, _, none⟩) NB146_138.out _).trans (hHeld.2.2.2))))⟩ (fun hHeld => ?_); clear hK K; refine last_ (i := 3) (N := none) #[true, true, true, true] rfl rfl (by kernel_rfl) (by decide) (fun K hK => ?_); have hs29 : w26.cell? ⟨gb139, 0, none⟩ = some (.int .u64 x140000_1) := bc BK139 0; have hfs29 := blk_frozen BK139.out 0; have hns29_0 := NB138_139.out; have hns29_2 := NB140_139.out; have hns29_3 := NB145_139.out; have hns29_4 := NB146_139.out; have hms29_0 := NB139_138.out; have hms29_2 := NB139_140.out; have hms29_3 := NB139_145.out; have hms29_4 := NB139_146.out; have hs30 : w26.cell? ⟨gb139, 1, none⟩ = some (.int .u64 x140001_1) := bc BK139 1; have hfs30 := blk_frozen BK139.out 1; have hns30_0 := NB138_139.out; have hns30_2 := NB140_139.out; have hns30_3 := NB145_139.out; have hns30_4 := NB146_139.out; have hms30_0 := NB139_138.out; have hms30_2 := NB139_140.out; have hms30_3 := NB139_145.out; have hms30_4 := NB139_146.out; refine skip_ (w1 := ?_) (by rfl) rfl ?_ ?_; rotate_left
    ·(go_simp); rfl
    refine hK.out _ _ ?_; clear hK K; refine done_ (by kernel_rfl) ?_; try go_wp2
    go_roundg k1
    case measure => have := HK1.out; omega
    case rel => exact ⟨(x140000_1), (x140001_1), (t143), (t144), H', ⟨by have := HK1.out; omega⟩, ⟨by refine pe ?_; refine blk_far ?_ NB138_139.out _; refine pe ?_; refine blk_far ?_ NB138_139.out _; refine pe ?_; refine blk_put (cs := #[.int .u64 x140000_1, .int .u64 x139001_1]) ?_ 1 _ rfl; refine pe ?_; refine blk_put (cs := #[.int .u64 x139000_1, .int .u64 x139001_1]) ?_ 0 _ rfl; refine pe ?_; exact BK138.out⟩, ⟨by refine pe ?_; refine blk_put (cs := #[.int .u64 t143, .int .u64 x140001_1]) ?_ 1 _ rfl; refine pe ?_; refine blk_put (cs := #[.int .u64 x140000_1, .int .u64 x140001_1]) ?_ 0 _ rfl; refine pe ?_; refine blk_far ?_ NB139_138.out _; refine pe ?_; refine blk_far ?_ NB139_138.out _; refine pe ?_; exact BK139.out⟩, ⟨bq BK140⟩, ⟨bw HB⟩⟩
   ·rw [if_neg c6] at H; (have c6b0 : (!(x140000_1 == 0) || (!(x140001_1 == 0))) = false := by simpa using c6); clear c6; simp only [Option.some.injEq, Prod.mk.injEq] at H; obtain ⟨rfl, rfl⟩ := H; obtain ⟨hnb31, hnc31⟩ := n2 NB139_138; obtain ⟨hnb32, hnc32⟩ := n2 NB139_140; have hcz33_0 : wr.cell? ⟨gb139, 0, none⟩ = some (.int .u64 x140000_1) := bc BK139 0; have hcz33_1 : wr.cell? ⟨gb139, 1, none⟩ = some (.int .u64 x140001_1) := bc BK139 1; have hfz33_0 := blk_frozen BK139.out 0; have hfz33_1 := blk_frozen BK139.out 1; obtain ⟨hnb34, hnc34⟩ := n2 NB138_140; have hcz35_0 : wr.cell? ⟨gb138, 0, none⟩ = some (.int .u64 x139000_1) := bc BK138 0; have hcz35_1 : wr.cell? ⟨gb138, 1, none⟩ = some (.int .u64 x139001_1) := bc BK138 1; have hfz35_0 := blk_frozen BK138.out 0; have hfz35_1 := blk_frozen BK138.out 1; have hcz36_0 : wr.cell? ⟨gb140, 0, none⟩ = some (.int .u64 0) := bc BK140 0; have hcz36_1 : wr.cell? ⟨gb140, 1, none⟩ = some (.int .u64 0) := bc BK140 1; have hfz36_0 := blk_frozen BK140.out 0; have hfz36_1 := blk_frozen BK140.out 1; (go_wp2); refine bodyPost_ret (results_cell_row rfl _ _ gb140 48 #[.int .u64 x139000_1, .int .u64 x139001_1] (0, 0) _ rfl (by refine pe ?_; refine blk_put (cs := #[.int .u64 x139000_1, .int .u64 0]) ?_ 1 _ rfl; refine pe ?_; refine blk_put (cs := #[.int .u64 0, .int .u64 0]) ?_ 0 _ rfl; refine pe ?_; exact BK140.out) Tryz.underlying48 rfl (by kernel_rfl)) rfl ?_; exact ⟨by first | rfl | (simp [errW_none, errW_some] <;> rfl) | (simp [*, errW_none, errW_some] <;> rfl), bw HB⟩

end Go.Proofs.YtbapkiclgkddcaaGreatDoor.G

-- Printed by gp.py (a program of this session's own, over the kit's printer) out of the translation; Lean checks it.
namespace Go.Proofs.YtbapkiclgkddcaaGreatDoor.G
open Go.Proofs.YtbapkiclgkddcaaGreatDoor.Given Go.Proofs.YtbapkiclgkddcaaGreatDoor.Short
open Go.RowKit Go.Proofs.YtbapkiclgkddcaaGreatDoorW.PrintWords Go.Proofs.YtbapkiclgkddcaaGreatDoorW.PrintLast Go.Proofs.YtbapkiclgkddcaaGreatDoorW.PrintMore
attribute [local go_sem] max2_int min2_int max_two min_two max_three min_three max_four min_four   -- for this text's walks alone
set_option linter.unusedVariables false
set_option linter.unusedSimpArgs false

attribute [local go_sem high] eqA48
/-! ### r1_Valid: function 10 -/
def r1_Valid.j0 : Nat → Bool → Int → Int → Option (Bool)
 | 0, _, _, _ => none
 | k + 1, x20, x254000, x254001 => if x20 = true then (some false) else ((r1_Size.f x254000).bind fun t254 => ((r1_Size.f x254001).bind fun t255 => ((r1_Divisor.f k 0 t254 0 t255).bind fun bt256 => (some (bt256.1 == 0 && (bt256.2 == 1))))))
def r1_Valid.f (k : Nat) (a0_0 : Int) (a0_1 : Int) : Option (Bool) := if a0_1 < 1 then (r1_Valid.j0 k true a0_0 a0_1) else (if a0_1 > 1152921504606846976 then (r1_Valid.j0 k true a0_0 a0_1) else (if a0_0 < (-1152921504606846976) then (r1_Valid.j0 k true a0_0 a0_1) else (r1_Valid.j0 k (decide (a0_0 > 1152921504606846976)) a0_0 a0_1)))
theorem r1_Valid.mono_l : ∀ k, (∀ y0 y1 y2, LeO (r1_Valid.j0 k y0 y1 y2) (r1_Valid.j0 (k + 1) y0 y1 y2))
 | 0 => fun _ _ _ r h => by simp [r1_Valid.j0] at h
 | k + 1 => by
  have ih0 := r1_Valid.mono_l k
  ·intro y0 y1 y2; unfold r1_Valid.j0
   repeat' first
   | (with_reducible exact ih0 _ _ _)
   | (with_reducible exact r1_Divisor.mono _ _ _ _ _)
   | (with_reducible exact LeO.refl _)
   | (with_reducible exact LeO.none _)
   | (with_reducible refine LeO.ite ?_ ?_)
   | (with_reducible refine LeO.bind ?_ (fun _ => ?_))
   | exact ih0 _ _ _
   | exact r1_Divisor.mono _ _ _ _ _
   | exact LeO.none _
   | refine LeO.ite ?_ ?_
   | refine LeO.bind ?_ (fun _ => ?_)
theorem r1_Valid.mono : ∀ a0 a1 k, LeO (r1_Valid.f k a0 a1) (r1_Valid.f (k + 1) a0 a1) := by
 intro a0 a1 k; have ih0 := r1_Valid.mono_l k; unfold r1_Valid.f
 repeat' first
   | (with_reducible exact ih0 _ _ _)
   | (with_reducible exact r1_Divisor.mono _ _ _ _ _)
   | (with_reducible exact LeO.refl _)
   | (with_reducible exact LeO.none _)
   | (with_reducible refine LeO.ite ?_ ?_)
   | (with_reducible refine LeO.bind ?_ (fun _ => ?_))
   | exact ih0 _ _ _
   | exact r1_Divisor.mono _ _ _ _ _
   | exact LeO.none _
   | refine LeO.ite ?_ ?_
   | refine LeO.bind ?_ (fun _ => ?_)
def r1_Valid.T3 : Bool × List (List Nat × List Nat) := (true, [([], []), ([0], [0]), ([1], [1]), ([2], [2]), ([], []), ([4], [4]), ([5, 2], [5]), ([6], [6]), ([3, 7, 6], [3, 7]), ([], []), ([8, 9], [8, 9]), ([10, 8, 0, 1, 2, 3, 4, 5, 6, 7, 8, 9, 10], [10])])
def r1_Valid.B3 : List Nat := [0, 1, 3, 7, 0, 16, 55, 119, 255, 0, 1023, 2047]
theorem r1_Valid.tab3 : rtab .any (opsOf Tryz.f10 3) = r1_Valid.T3 := by kernel_rfl
theorem r1_Valid.bits3 : waitsOk r1_Valid.T3.2 r1_Valid.B3 = true := by kernel_rfl
set_option maxHeartbeats 8000000 in
set_option maxRecDepth 100000 in
theorem r1_Valid.calls (k : Nat) (a0_0 : Int) (a0_1 : Int) (r : Bool) (w : World) (h : r1_Valid.f k a0_0 a0_1 = some r) :
  Calls Tryz.prog 10 #[.agg #[.int .i64 a0_0, .int .i64 a0_1]] w fun e w' => e = .returned (.bool r) ∧ Below w.heap.size w w' := by
 have hu24 := Tryz.underlying24; have hu48 := Tryz.underlying48; have HB := Aside0.mk (Below.refl w.heap.size w); have H : (if a0_1 < 1 then (r1_Valid.j0 k true a0_0 a0_1) else (if a0_1 > 1152921504606846976 then (r1_Valid.j0 k true a0_0 a0_1) else (if a0_0 < (-1152921504606846976) then (r1_Valid.j0 k true a0_0 a0_1) else (r1_Valid.j0 k (decide (a0_0 > 1152921504606846976)) a0_0 a0_1)))) = some r := h; clear h; have HC2 := Aside0.mk H; clear H; go_enter Tryz.func10, Tryz.ntmps10
 go_upto_region 1 with (first | ((with_reducible refine gate_dst (N := 1) rfl ?_); refine bx (N := 1) (cs := #[.int .i64 a0_0, .int .i64 a0_1]) (t := 24) ?_; intro gb253 hg w3 hbox hb; have BK253 := Aside0.mk (hbox); have GW253 := gs HB hg; have GE253 := gs HB hg; replace HB := wb HB hb; clear hb hbox hg))
 (try simp only [Act.put, List.setIfInBounds_toArray, List.set_cons_zero, List.set_cons_succ])
 go_cut [20] (fun v20 wc => ∃ (kq : Nat) (x20_1 : Bool), v20 = .bool x20_1 ∧ Aside0 (r1_Valid.j0 kq x20_1 a0_0 a0_1 = some r) ∧ Aside0 (kq ≤ k) ∧ Aside0 (wc.heap[gb253]? = some (.cells #[.int .i64 a0_0, .int .i64 a0_1] 24 (0, 0))) ∧ Aside0 (Below w.heap.size w wc))
 case first =>
  have H := HC2.out; clear HC2
  by_cases c4 : a0_1 < 1
  ·rw [if_pos c4] at H; have c4b0 : decide (a0_1 < 1) = true := decide_eq_true c4; clear c4
   (first | rw [c4b0] | (simp only [i64_w, i32_w]; rw [c4b0]) | skip)
   have H' := Aside0.mk H; clear H; have hcz5_0 : w3.cell? ⟨gb253, 0, none⟩ = some (.int .i64 a0_0) := bc BK253 0; have hcz5_1 : w3.cell? ⟨gb253, 1, none⟩ = some (.int .i64 a0_1) := bc BK253 1; have hfz5_0 := blk_frozen BK253.out 0; have hfz5_1 := blk_frozen BK253.out 1; go_wp2
   go_meet
   case rel => exact ⟨_, (true), (by first | rfl | (simp; done) | (simp [*]; done)), H', ⟨by first | omega | exact Nat.le_refl _⟩, ⟨bq BK253⟩, ⟨bw HB⟩⟩
  ·rw [if_neg c4] at H; have c4b0 : decide (a0_1 < 1) = false := decide_eq_false c4; clear c4
   (first | rw [c4b0] | (simp only [i64_w, i32_w]; rw [c4b0]) | skip)
   by_cases c6 : a0_1 > 1152921504606846976
   ·rw [if_pos c6] at H; have c6b0 : decide (1152921504606846976 < a0_1) = true := decide_eq_true c6; clear c6; have H' := Aside0.mk H; clear H; have hcz7_0 : w3.cell? ⟨gb253, 0, none⟩ = some (.int .i64 a0_0) := bc BK253 0; have hcz7_1 : w3.cell? ⟨gb253, 1, none⟩ = some (.int .i64 a0_1) := bc BK253 1; have hfz7_0 := blk_frozen BK253.out 0; have hfz7_1 := blk_frozen BK253.out 1; go_wp2
    go_meet
    case rel => exact ⟨_, (true), (by first | rfl | (simp; done) | (simp [*]; done)), H', ⟨by first | omega | exact Nat.le_refl _⟩, ⟨bq BK253⟩, ⟨bw HB⟩⟩
   ·rw [if_neg c6] at H; have c6b0 : decide (1152921504606846976 < a0_1) = false := decide_eq_false c6; clear c6
    by_cases c8 : a0_0 < (-1152921504606846976)
    ·rw [if_pos c8] at H; have c8b0 : decide (a0_0 < (-1152921504606846976)) = true := decide_eq_true c8; clear c8; have H' := Aside0.mk H; clear H; have hcz9_0 : w3.cell? ⟨gb253, 0, none⟩ = some (.int .i64 a0_0) := bc BK253 0; have hcz9_1 : w3.cell? ⟨gb253, 1, none⟩ = some (.int .i64 a0_1) := bc BK253 1; have hfz9_0 := blk_frozen BK253.out 0; have hfz9_1 := blk_frozen BK253.out 1; go_wp2
     go_meet
     case rel => exact ⟨_, (true), (by first | rfl | (simp; done) | (simp [*]; done)), H', ⟨by first | omega | exact Nat.le_refl _⟩, ⟨bq BK253⟩, ⟨bw HB⟩⟩
    ·rw [if_neg c8] at H; have c8b0 : decide (a0_0 < (-1152921504606846976)) = false := decide_eq_false c8; clear c8; have H' := Aside0.mk H; clear H; have hcz10_0 : w3.cell? ⟨gb253, 0, none⟩ = some (.int .i64 a0_0) := bc BK253 0; have hcz10_1 : w3.cell? ⟨gb253, 1, none⟩ = some (.int .i64 a0_1) := bc BK253 1; have hfz10_0 := blk_frozen BK253.out 0; have hfz10_1 := blk_frozen BK253.out 1; go_wp2
     go_meet
     case rel => exact ⟨_, (decide (a0_0 > 1152921504606846976)), (by first | rfl | (simp; done) | (simp [*]; done)), H', ⟨by first | omega | exact Nat.le_refl _⟩, ⟨bq BK253⟩, ⟨bw HB⟩⟩
 case rest =>
  clear HC2; (try clear c1); (try clear p2); (try clear c4); (try clear c4b0); (try clear c6); (try clear c6b0); (try clear c8); (try clear c8b0); (try clear c10); (try clear hcz10_0); (try clear hcz10_1); (try clear hcz5_0); (try clear hcz5_1); (try clear hcz7_0); (try clear hcz7_1); (try clear hcz9_0); (try clear hcz9_1); (try clear hfz10_0); (try clear hfz10_1); (try clear hfz5_0); (try clear hfz5_1); (try clear hfz7_0); (try clear hfz7_1); (try clear hfz9_0); (try clear hfz9_1); obtain ⟨kq, x20_1, rfl, HA, HJ1, BK253, HB⟩ := hcut
  cases kq with
  | zero => exact absurd HA.out (by simp [r1_Valid.j0])
  | succ kj1 =>
   have H := HA.out; clear HA; simp only [r1_Valid.j0] at H
   by_cases c11 : x20_1 = true
   ·subst c11; (have H1 : (some false) = some r := by rw [if_pos rfl] at H; exact H); clear H; have H := H1; clear H1; obtain rfl := Option.some.inj H; (go_wp2); (go_ret); exact ⟨by first | rfl | (simp [errW_none, errW_some] <;> rfl) | (simp [*, errW_none, errW_some] <;> rfl), bw HB⟩
   ·replace c11 := Bool.eq_false_iff.mpr c11; subst c11; (have H1 : ((r1_Size.f a0_0).bind fun t254 => ((r1_Size.f a0_1).bind fun t255 => ((r1_Divisor.f kj1 0 t254 0 t255).bind fun bt256 => (some (bt256.1 == 0 && (bt256.2 == 1)))))) = some r := by rw [if_neg (show ¬ (false = true) by decide)] at H; exact H); clear H; have H := H1; clear H1; replace H := Option.bind_eq_some_iff.mp H; obtain ⟨t254, A120, H⟩ := H; (try dsimp only at H); have A12 := Aside0.mk A120; clear A120; replace H := Option.bind_eq_some_iff.mp H; obtain ⟨t255, A130, H⟩ := H; (try dsimp only at H); have A13 := Aside0.mk A130; clear A130; replace H := Option.bind_eq_some_iff.mp H; obtain ⟨⟨t256, t257⟩, A140, H⟩ := H; (try dsimp only at H); have A14 := Aside0.mk A140; clear A140; obtain rfl := Option.some.inj H; (try go_wp2); have n0_ := Aside0.mk (blk_drew BK253.out); have n1_ := Aside0.mk (below_drew1 HB.out); clear BK253; clear HB; have BK253 := n0_; have HB := n1_; clear n0_ n1_; refine start_ (n := 12) (S := fun w' => w'.cell? ⟨gb253, 0, none⟩ = some (.int .i64 a0_0) ∧ w'.cell? ⟨gb253, 1, none⟩ = some (.int .i64 a0_1)) (ds := []) #[false, false, false, false, false, false, false, false, false, false, false, false] (by kernel_rfl) rfl rfl ⟨bc BK253 0, bc BK253 1⟩ (fun hHeld => ?_); refine with_tabW r1_Valid.tab3 r1_Valid.bits3 (fun HT_ HW_ => ?_); (generalize wc.drew = w15 at BK253 HB hHeld ⊢); refine pure_ (i := 0) (N := some 21) (v := ?_) (a' := ?_) #[true, false, false, false, false, false, false, false, false, false, false, false] rfl rfl (any_of HT_.out (by kernel_rfl)) (fun _ _ _ h => h) (Or.inl ⟨by rfl, ?_⟩) ?_ ?_; rotate_left
    ·intro w'; (go_simp); with_reducible rfl
    rotate_left
    ·simp only [Act.put, List.setIfInBounds_toArray, List.set_cons_zero, List.set_cons_succ, i64_w, i32_w]; rfl
    refine pure_ (i := 4) (N := some 25) (v := ?_) (a' := ?_) #[true, false, false, false, true, false, false, false, false, false, false, false] rfl rfl (any_of HT_.out (by kernel_rfl)) (fun _ _ _ h => h) (Or.inl ⟨by rfl, ?_⟩) ?_ ?_; rotate_left
    ·intro w'; (go_simp); with_reducible rfl
    rotate_left
    ·simp only [Act.put, List.setIfInBounds_toArray, List.set_cons_zero, List.set_cons_succ, i64_w, i32_w]; rfl
    refine pure_ (i := 9) (N := some 30) (v := ?_) (a' := ?_) #[true, false, false, false, true, false, false, false, false, true, false, false] rfl rfl (any_of HT_.out (by kernel_rfl)) (fun _ _ _ h => h) (Or.inl ⟨by rfl, ?_⟩) ?_ ?_; rotate_left
    ·intro w'; (go_simp); with_reducible rfl
    rotate_left
    ·simp only [Act.put, List.setIfInBounds_toArray, List.set_cons_zero, List.set_cons_succ, i64_w, i32_w]; rfl
    refine take_ (i := 1) (N := some 22) (v := ?_) (a' := ?_) #[true, true, false, false, true, false, false, false, false, true, false, false] rfl rfl (take_ofW HT_.out HW_.out (by kernel_rfl)) (fun _ _ _ h => h) (Or.inl ⟨by rfl, ?_⟩) hHeld ?_ ?_; rotate_left
    ·rintro w' ⟨s0, s1⟩; (go_simp); with_reducible rfl
    rotate_left
    ·simp only [Act.put, List.setIfInBounds_toArray, List.set_cons_zero, List.set_cons_succ, i64_w, i32_w]; rfl
    refine take_ (i := 5) (N := some 26) (v := ?_) (a' := ?_) #[true, true, false, false, true, true, false, false, false, true, false, false] rfl rfl (take_ofW HT_.out HW_.out (by kernel_rfl)) (fun _ _ _ h => h) (Or.inl ⟨by rfl, ?_⟩) hHeld ?_ ?_; rotate_left
    ·rintro w' ⟨s0, s1⟩; (go_simp); with_reducible rfl
    rotate_left
    ·simp only [Act.put, List.setIfInBounds_toArray, List.set_cons_zero, List.set_cons_succ, i64_w, i32_w]; rfl
    refine one_ (i := 2) (N := some 23) #[true, true, true, false, true, true, false, false, false, true, false, false] rfl rfl (one_of HT_.out (by kernel_rfl)) (by decide) (fun K hK => ?_); refine gz Tryz.func24 #[.int .i64 a0_0] ?_; (with_reducible refine (r1_Size.calls a0_0 t254 _ A12.out).mono ?_); rintro e w' ⟨rfl, ⟨nd, rfl⟩⟩; refine ⟨_, rfl, ?_⟩; refine hK.out _ _ ⟨bc BK253 0, bc BK253 1⟩ (fun hHeld => ?_); clear hK K; refine norm_ (a' := ?_) ?_ ?_; rotate_left
    ·show Act.put _ (some 23) _ = _; simp only [Act.put, List.setIfInBounds_toArray, List.set_cons_zero, List.set_cons_succ, i64_w, i32_w]; rfl
    refine pure_ (i := 3) (N := some 24) (v := ?_) (a' := ?_) #[true, true, true, true, true, true, false, false, false, true, false, false] rfl rfl (any_of HT_.out (by kernel_rfl)) (fun _ _ _ h => h) (Or.inl ⟨by rfl, ?_⟩) ?_ ?_; rotate_left
    ·intro w'; (go_simp); with_reducible rfl
    rotate_left
    ·simp only [Act.put, List.setIfInBounds_toArray, List.set_cons_zero, List.set_cons_succ, i64_w, i32_w]; rfl
    refine one_ (i := 6) (N := some 27) #[true, true, true, true, true, true, true, false, false, true, false, false] rfl rfl (one_of HT_.out (by kernel_rfl)) (by decide) (fun K hK => ?_); refine gz Tryz.func24 #[.int .i64 a0_1] ?_; (with_reducible refine (r1_Size.calls a0_1 t255 _ A13.out).mono ?_); rintro e w' ⟨rfl, ⟨nd, rfl⟩⟩; refine ⟨_, rfl, ?_⟩; refine hK.out _ _ ⟨bc BK253 0, bc BK253 1⟩ (fun hHeld => ?_); clear hK K; refine norm_ (a' := ?_) ?_ ?_; rotate_left
    ·show Act.put _ (some 27) _ = _; simp only [Act.put, List.setIfInBounds_toArray, List.set_cons_zero, List.set_cons_succ, i64_w, i32_w]; rfl
    refine pure_ (i := 7) (N := some 28) (v := ?_) (a' := ?_) #[true, true, true, true, true, true, true, true, false, true, false, false] rfl rfl (any_of HT_.out (by kernel_rfl)) (fun _ _ _ h => h) (Or.inl ⟨by rfl, ?_⟩) ?_ ?_; rotate_left
    ·intro w'; (go_simp); with_reducible rfl
    rotate_left
    ·simp only [Act.put, List.setIfInBounds_toArray, List.set_cons_zero, List.set_cons_succ, i64_w, i32_w]; rfl
    refine one_ (i := 8) (N := some 29) #[true, true, true, true, true, true, true, true, true, true, false, false] rfl rfl (one_of HT_.out (by kernel_rfl)) (by decide) (fun K hK => ?_); refine gz Tryz.func32 #[.agg #[.int .u64 0, .int .u64 t254], .agg #[.int .u64 0, .int .u64 t255]] ?_; (with_reducible refine (r1_Divisor.calls kj1 0 t254 0 t255 t256 t257 _ A14.out).mono ?_); rintro e w16 ⟨rfl, hb⟩; refine ⟨_, rfl, ?_⟩; have n0_ := kb BK253 hb; have n1_ := wb HB hb; clear BK253; clear HB; have BK253 := n0_; have HB := n1_; clear n0_ n1_; (try clear hb); (try clear hb2); (try clear hk); (try clear hi); refine hK.out _ _ ⟨bc BK253 0, bc BK253 1⟩ (fun hHeld => ?_); clear hK K; refine norm_ (a' := ?_) ?_ ?_; rotate_left
    ·show Act.put _ (some 29) _ = _; simp only [Act.put, List.setIfInBounds_toArray, List.set_cons_zero, List.set_cons_succ, i64_w, i32_w]; rfl
    refine pure_ (i := 10) (N := some 31) (v := ?_) (a' := ?_) #[true, true, true, true, true, true, true, true, true, true, true, false] rfl rfl (any_of HT_.out (by kernel_rfl)) (fun _ _ _ h => h) (Or.inl ⟨by rfl, ?_⟩) ?_ ?_; rotate_left
    ·intro w'; (go_simp); with_reducible rfl
    rotate_left
    ·simp only [Act.put, List.setIfInBounds_toArray, List.set_cons_zero, List.set_cons_succ, i64_w, i32_w]; rfl
    refine pure_ (i := 11) (N := some 2) (v := ?_) (a' := ?_) #[true, true, true, true, true, true, true, true, true, true, true, true] rfl rfl (any_of HT_.out (by kernel_rfl)) (fun _ _ _ h => h) (Or.inl ⟨by rfl, ?_⟩) ?_ ?_; rotate_left
    ·intro w'; (go_simp); with_reducible rfl
    rotate_left
    ·simp only [Act.put, List.setIfInBounds_toArray, List.set_cons_zero, List.set_cons_succ, i64_w, i32_w]; rfl
    refine done_ (done_of HT_.out (by kernel_rfl)) ?_; (try go_wp2); (go_ret); exact ⟨by first | rfl | (simp [errW_none, errW_some] <;> rfl) | (simp [*, errW_none, errW_some] <;> rfl), bw HB⟩

end Go.Proofs.YtbapkiclgkddcaaGreatDoor.G
