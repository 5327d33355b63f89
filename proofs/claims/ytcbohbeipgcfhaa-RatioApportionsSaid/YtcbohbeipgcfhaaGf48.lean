-- Printed by gp.py (a program of this session's own, over the kit's printer) out of the translation; Lean checks it.
import Derived.Test.YtcbohbeipgcfhaaG0
import Derived.Test.YtcbohbeipgcfhaaGf52
import Derived.Test.YtcbohbeipgcfhaaGf64
import Derived.Test.YtcbohbeipgcfhaaGf65
namespace Go.Proofs.Ytcbohbeipgcfhaa.G
open Go.Proofs.Ytcbohbeipgcfhaa.Given Go.Proofs.Ytcbohbeipgcfhaa.Short
open Go.RowKit Go.Proofs.YtcbohbeipgcfhaaW.PrintWords Go.Proofs.YtcbohbeipgcfhaaW.PrintLast Go.Proofs.YtcbohbeipgcfhaaW.PrintMore
attribute [local go_sem] max2_int min2_int max_two min_two max_three min_three max_four min_four   -- for this text's walks alone
set_option linter.unusedVariables false
set_option linter.unusedSimpArgs false

/-! ### ratio_lowest: function 48 -/
def ratio_lowest.j0 : Nat → Int → Bool → Bool → Int → Int → Option (Int × Int × Int)
  | 0, _, _, _, _, _ => none
  | k + 1, x1, x33, x131000, x131001, x131002 => if x33 = true then (some (0, 0, 6)) else (if x131000 = true then (some (wrap64 (-(wrap64 (x131002))), wrap64 (x1), 0)) else (some (wrap64 (x131002), wrap64 (x1), 0)))
def ratio_lowest.f (k : Nat) (a0_0 : Bool) (a0_1 : Int) (a0_2 : Int) (a1 : Int) : Option (Int × Int × Int) := (bits_Rem64.f k a0_1 a0_2 a1).bind fun t132 => ((ratio_gcd.f k a1 t132).bind fun t133 => ((ratio_wide_over.f k a0_0 a0_1 a0_2 t133).bind fun bt134 => (if t133 = 0 then (none) else (if bt134.2.1 = 0 then (if bt134.2.2 > 1152921504606846976 then (ratio_lowest.j0 k (IntKind.u64.wrap (Int.tdiv a1 t133)) true bt134.1 bt134.2.1 bt134.2.2) else (ratio_lowest.j0 k (IntKind.u64.wrap (Int.tdiv a1 t133)) (decide ((IntKind.u64.wrap (Int.tdiv a1 t133)) > 1152921504606846976)) bt134.1 bt134.2.1 bt134.2.2)) else (ratio_lowest.j0 k (IntKind.u64.wrap (Int.tdiv a1 t133)) true bt134.1 bt134.2.1 bt134.2.2)))))
theorem ratio_lowest.mono_l : ∀ k, (∀ y0 y1 y2 y3 y4, LeO (ratio_lowest.j0 k y0 y1 y2 y3 y4) (ratio_lowest.j0 (k + 1) y0 y1 y2 y3 y4))
  | 0 => fun _ _ _ _ _ r h => by simp [ratio_lowest.j0] at h
  | k + 1 => by
    have ih0 := ratio_lowest.mono_l k
    · intro y0 y1 y2 y3 y4
      unfold ratio_lowest.j0
      repeat' first
      | (with_reducible exact ih0 _ _ _ _ _)
      | (with_reducible exact bits_Rem64.mono _ _ _ _)
      | (with_reducible exact ratio_gcd.mono _ _ _)
      | (with_reducible exact ratio_wide_over.mono _ _ _ _ _)
      | (with_reducible exact LeO.refl _)
      | (with_reducible exact LeO.none _)
      | (with_reducible refine LeO.ite ?_ ?_)
      | (with_reducible refine LeO.bind ?_ (fun _ => ?_))
      | exact ih0 _ _ _ _ _
      | exact bits_Rem64.mono _ _ _ _
      | exact ratio_gcd.mono _ _ _
      | exact ratio_wide_over.mono _ _ _ _ _
      | exact LeO.none _
      | refine LeO.ite ?_ ?_
      | refine LeO.bind ?_ (fun _ => ?_)
theorem ratio_lowest.mono : ∀ a0 a1 a2 a3 k, LeO (ratio_lowest.f k a0 a1 a2 a3) (ratio_lowest.f (k + 1) a0 a1 a2 a3) := by
  intro a0 a1 a2 a3 k
  have ih0 := ratio_lowest.mono_l k
  unfold ratio_lowest.f
  repeat' first
      | (with_reducible exact ih0 _ _ _ _ _)
      | (with_reducible exact bits_Rem64.mono _ _ _ _)
      | (with_reducible exact ratio_gcd.mono _ _ _)
      | (with_reducible exact ratio_wide_over.mono _ _ _ _ _)
      | (with_reducible exact LeO.refl _)
      | (with_reducible exact LeO.none _)
      | (with_reducible refine LeO.ite ?_ ?_)
      | (with_reducible refine LeO.bind ?_ (fun _ => ?_))
      | exact ih0 _ _ _ _ _
      | exact bits_Rem64.mono _ _ _ _
      | exact ratio_gcd.mono _ _ _
      | exact ratio_wide_over.mono _ _ _ _ _
      | exact LeO.none _
      | refine LeO.ite ?_ ?_
      | refine LeO.bind ?_ (fun _ => ?_)
def ratio_lowest.T2 : Bool × List (List Nat × List Nat) := (true, [([], []), ([], []), ([0, 1], [0, 1]), ([], []), ([], []), ([3, 4], [3, 4]), ([2, 2, 0, 1, 2], [2]), ([5, 6, 0, 1, 2, 3, 4, 5, 6], [3, 5])])
def ratio_lowest.B2 : List Nat := [0, 0, 3, 0, 0, 24, 7, 127]
theorem ratio_lowest.tab2 : rtab .any (opsOf Try.f48 2) = ratio_lowest.T2 := by kernel_rfl
theorem ratio_lowest.bits2 : waitsOk ratio_lowest.T2.2 ratio_lowest.B2 = true := by kernel_rfl
set_option maxHeartbeats 8000000 in
set_option maxRecDepth 100000 in
theorem ratio_lowest.calls (k : Nat) (a0_0 : Bool) (a0_1 : Int) (a0_2 : Int) (a1 : Int) (r1 : Int) (r2 : Int) (r3 : Int) (w : World) (h : ratio_lowest.f k a0_0 a0_1 a0_2 a1 = some (r1, r2, r3)) :
    Calls Try.prog 48 #[.agg #[.bool a0_0, .int .u64 a0_1, .int .u64 a0_2], .int .u64 a1] w fun e w' => e = .returned (.tuple #[.agg #[.int .i64 r1, .int .i64 r2], .int .i64 r3]) ∧ Below w.heap.size w w' := by
  have hu58 := Try.underlying58
  have hu35 := Try.underlying35
  have HB := Aside0.mk (Below.refl w.heap.size w)
  have H : ((bits_Rem64.f k a0_1 a0_2 a1).bind fun t132 => ((ratio_gcd.f k a1 t132).bind fun t133 => ((ratio_wide_over.f k a0_0 a0_1 a0_2 t133).bind fun bt134 => (if t133 = 0 then (none) else (if bt134.2.1 = 0 then (if bt134.2.2 > 1152921504606846976 then (ratio_lowest.j0 k (IntKind.u64.wrap (Int.tdiv a1 t133)) true bt134.1 bt134.2.1 bt134.2.2) else (ratio_lowest.j0 k (IntKind.u64.wrap (Int.tdiv a1 t133)) (decide ((IntKind.u64.wrap (Int.tdiv a1 t133)) > 1152921504606846976)) bt134.1 bt134.2.1 bt134.2.2)) else (ratio_lowest.j0 k (IntKind.u64.wrap (Int.tdiv a1 t133)) true bt134.1 bt134.2.1 bt134.2.2)))))) = some (r1, r2, r3) := h
  clear h
  replace H := Option.bind_eq_some_iff.mp H
  obtain ⟨t132, A30, H⟩ := H
  replace H : ((ratio_gcd.f k a1 t132).bind fun t133 => ((ratio_wide_over.f k a0_0 a0_1 a0_2 t133).bind fun bt134 => (if t133 = 0 then (none) else (if bt134.2.1 = 0 then (if bt134.2.2 > 1152921504606846976 then (ratio_lowest.j0 k (IntKind.u64.wrap (Int.tdiv a1 t133)) true bt134.1 bt134.2.1 bt134.2.2) else (ratio_lowest.j0 k (IntKind.u64.wrap (Int.tdiv a1 t133)) (decide ((IntKind.u64.wrap (Int.tdiv a1 t133)) > 1152921504606846976)) bt134.1 bt134.2.1 bt134.2.2)) else (ratio_lowest.j0 k (IntKind.u64.wrap (Int.tdiv a1 t133)) true bt134.1 bt134.2.1 bt134.2.2))))) = some (r1, r2, r3) := H
  have A3 := Aside0.mk A30
  clear A30
  replace H := Option.bind_eq_some_iff.mp H
  obtain ⟨t133, A40, H⟩ := H
  replace H : ((ratio_wide_over.f k a0_0 a0_1 a0_2 t133).bind fun bt134 => (if t133 = 0 then (none) else (if bt134.2.1 = 0 then (if bt134.2.2 > 1152921504606846976 then (ratio_lowest.j0 k (IntKind.u64.wrap (Int.tdiv a1 t133)) true bt134.1 bt134.2.1 bt134.2.2) else (ratio_lowest.j0 k (IntKind.u64.wrap (Int.tdiv a1 t133)) (decide ((IntKind.u64.wrap (Int.tdiv a1 t133)) > 1152921504606846976)) bt134.1 bt134.2.1 bt134.2.2)) else (ratio_lowest.j0 k (IntKind.u64.wrap (Int.tdiv a1 t133)) true bt134.1 bt134.2.1 bt134.2.2)))) = some (r1, r2, r3) := H
  have A4 := Aside0.mk A40
  clear A40
  replace H := Option.bind_eq_some_iff.mp H
  obtain ⟨⟨t134, t135, t136⟩, A50, H⟩ := H
  replace H : (if t133 = 0 then (none) else (if t135 = 0 then (if t136 > 1152921504606846976 then (ratio_lowest.j0 k (IntKind.u64.wrap (Int.tdiv a1 t133)) true t134 t135 t136) else (ratio_lowest.j0 k (IntKind.u64.wrap (Int.tdiv a1 t133)) (decide ((IntKind.u64.wrap (Int.tdiv a1 t133)) > 1152921504606846976)) t134 t135 t136)) else (ratio_lowest.j0 k (IntKind.u64.wrap (Int.tdiv a1 t133)) true t134 t135 t136))) = some (r1, r2, r3) := H
  have A5 := Aside0.mk A50
  clear A50
  by_cases c6 : t133 = 0
  · rw [if_pos c6] at H
    exact absurd H (by simp)
  · rw [if_neg c6] at H
    have c6b0 : (t133 == 0) = false := beq_eq_false_iff_ne.mpr c6
    have c6b1 : (t133 != 0) = true := bne_iff_ne.mpr c6
    have HC7 := Aside0.mk H
    clear H
    go_enter Try.func48, Try.ntmps48
    try go_wp2_with (first | ((with_reducible refine gate_dst (N := 2) rfl ?_); refine box_event ?hg (N := 2) ?hd (cs := #[.bool a0_0, .int .u64 a0_1, .int .u64 a0_2]) (t := 58) ?hr ?_; (case hd => rfl); (case hg => rfl); (case hr => first | (go_simp; done) | (go_simp; rfl)); intro gb130 hg w8 hbox hb; have BK130 := Aside0.mk (hbox); have GW130 := gs HB hg; have GE130 := gs HB hg; replace HB := wb HB hb; clear hb hbox hg) | ((with_reducible refine gate_dst (N := 4) rfl ?_); refine box_event ?hg (N := 4) ?hd (cs := #[.int .i64 0, .int .i64 0]) (t := 35) ?hr ?_; (case hd => rfl); (case hg => rfl); (case hr => first | (go_simp; done) | (go_simp; rfl)); intro gb131 hg w9 hbox hb; have BK131 := Aside0.mk (hbox); have GW131 := gs HB hg; have GE131 := gs HB hg; have NB130_131 := nl BK130 hg; have NB131_130 := nr BK130 hg; replace BK130 := kb BK130 hb; replace HB := wb HB hb; clear hb hbox hg; obtain ⟨hnb10, hnc10⟩ := n2 NB130_131; have hcz11_0 : w9.cell? ⟨gb130, 0, none⟩ = some (.bool a0_0) := (blk_cell BK130.out 0).trans rfl; have hcz11_1 : w9.cell? ⟨gb130, 1, none⟩ = some (.int .u64 a0_1) := (blk_cell BK130.out 1).trans rfl; have hcz11_2 : w9.cell? ⟨gb130, 2, none⟩ = some (.int .u64 a0_2) := (blk_cell BK130.out 2).trans rfl; have hfz11_0 := blk_frozen BK130.out 0; have hfz11_1 := blk_frozen BK130.out 1; have hfz11_2 := blk_frozen BK130.out 2) | ((with_reducible refine gate_callee (f := 64) rfl ?_); refine goesL_ (some 14) rfl rfl Try.func64 (by kernel_rfl) rfl #[.int .u64 a0_1, .int .u64 a0_2, .int .u64 a1] rfl (by (try simp only [List.map_toArray, List.map_cons, List.map_nil]); first | done | rfl | (simp only [List.length_drop, List.length_take]; rfl)) ?_; (with_reducible refine (bits_Rem64.calls k a0_1 a0_2 a1 t132 _ A3.out).mono ?_); rintro e w' ⟨rfl, ⟨nd, rfl⟩⟩; refine ⟨_, rfl, ?_⟩; (try (rw [drewN_self w9]; generalize hq_ : World.drewN w9 _ = w9; replace BK130 : Aside0 (w9.heap[gb130]? = some (.cells #[.bool a0_0, .int .u64 a0_1, .int .u64 a0_2] 58 (0, 0))) := ⟨by rw [← hq_]; exact (bq BK130)⟩; replace BK131 : Aside0 (w9.heap[gb131]? = some (.cells #[.int .i64 0, .int .i64 0] 35 (0, 0))) := ⟨by rw [← hq_]; exact (bq BK131)⟩; replace HB : Aside0 (Below w.heap.size w w9) := ⟨by rw [← hq_]; exact (bw HB)⟩; clear hq_))) | ((with_reducible refine gate_callee (f := 52) rfl ?_); refine goesL_ (some 15) rfl rfl Try.func52 (by kernel_rfl) rfl #[.int .u64 a1, .int .u64 t132] rfl (by (try simp only [List.map_toArray, List.map_cons, List.map_nil]); first | done | rfl | (simp only [List.length_drop, List.length_take]; rfl)) ?_; (with_reducible refine (ratio_gcd.calls k a1 t132 t133 _ A4.out).mono ?_); rintro e w' ⟨rfl, ⟨nd, rfl⟩⟩; refine ⟨_, rfl, ?_⟩; (try (rw [drewN_self w9]; generalize hq_ : World.drewN w9 _ = w9; replace BK130 : Aside0 (w9.heap[gb130]? = some (.cells #[.bool a0_0, .int .u64 a0_1, .int .u64 a0_2] 58 (0, 0))) := ⟨by rw [← hq_]; exact (bq BK130)⟩; replace BK131 : Aside0 (w9.heap[gb131]? = some (.cells #[.int .i64 0, .int .i64 0] 35 (0, 0))) := ⟨by rw [← hq_]; exact (bq BK131)⟩; replace HB : Aside0 (Below w.heap.size w w9) := ⟨by rw [← hq_]; exact (bw HB)⟩; clear hq_))))
    have n0_ := Aside0.mk (blk_drew BK130.out)
    have n1_ := Aside0.mk (blk_drew BK131.out)
    have n2_ := Aside0.mk (below_drew1 HB.out)
    clear BK130
    clear BK131
    clear HB
    have BK130 := n0_
    have BK131 := n1_
    have HB := n2_
    clear n0_ n1_ n2_
    refine start_ (n := 8) (S := fun w' => w'.cell? ⟨gb130, 0, none⟩ = some (.bool a0_0) ∧ w'.cell? ⟨gb130, 1, none⟩ = some (.int .u64 a0_1) ∧ w'.cell? ⟨gb130, 2, none⟩ = some (.int .u64 a0_2)) (ds := [6]) #[false, false, false, false, false, false, false, false] (by kernel_rfl) rfl rfl ⟨(blk_cell BK130.out 0).trans rfl, (blk_cell BK130.out 1).trans rfl, (blk_cell BK130.out 2).trans rfl⟩ (fun hHeld => ?_); refine with_tabW ratio_lowest.tab2 ratio_lowest.bits2 (fun HT_ HW_ => ?_)
    generalize w9.drew = w12 at BK130 BK131 HB hHeld ⊢
    refine pure_ (i := 1) (N := some 17) (v := ?_) (a' := ?_) #[false, true, false, false, false, false, false, false] rfl rfl (any_of HT_.out (by kernel_rfl)) (fun _ _ _ h => h) (Or.inl ⟨by rfl, ?_⟩) ?_ ?_
    rotate_left
    · intro w'
      go_simp
      with_reducible rfl
    rotate_left
    · simp only [Act.put, List.setIfInBounds_toArray, List.set_cons_zero, List.set_cons_succ, i64_w, i32_w]
      rfl
    refine pure_ (i := 3) (N := some 19) (v := ?_) (a' := ?_) #[false, true, false, true, false, false, false, false] rfl rfl (any_of HT_.out (by kernel_rfl)) (fun _ _ _ h => h) (Or.inl ⟨by rfl, ?_⟩) ?_ ?_
    rotate_left
    · intro w'
      go_simp
      with_reducible rfl
    rotate_left
    · simp only [Act.put, List.setIfInBounds_toArray, List.set_cons_zero, List.set_cons_succ, i64_w, i32_w]
      rfl
    refine pure_ (i := 4) (N := some 20) (v := ?_) (a' := ?_) #[false, true, false, true, true, false, false, false] rfl rfl (any_of HT_.out (by kernel_rfl)) (fun _ _ _ h => h) (Or.inl ⟨by rfl, ?_⟩) ?_ ?_
    rotate_left
    · intro w'
      go_simp
      with_reducible rfl
    rotate_left
    · simp only [Act.put, List.setIfInBounds_toArray, List.set_cons_zero, List.set_cons_succ, i64_w, i32_w]
      rfl
    refine pure_ (i := 5) (N := some 21) (v := ?_) (a' := ?_) #[false, true, false, true, true, true, false, false] rfl rfl (any_of HT_.out (by kernel_rfl)) (fun _ _ _ h => h) (Or.inl ⟨by rfl, ?_⟩) ?_ ?_
    rotate_left
    · intro w'
      go_simp
      with_reducible rfl
    rotate_left
    · simp only [Act.put, List.setIfInBounds_toArray, List.set_cons_zero, List.set_cons_succ, i64_w, i32_w]
      rfl
    refine take_ (i := 0) (N := some 16) (v := ?_) (a' := ?_) #[true, true, false, true, true, true, false, false] rfl rfl (take_ofW HT_.out HW_.out (by kernel_rfl)) (fun _ _ _ h => h) (Or.inl ⟨by rfl, ?_⟩) hHeld ?_ ?_
    rotate_left
    · rintro w' ⟨s0, s1, s2⟩
      go_simp
      with_reducible rfl
    rotate_left
    · simp only [Act.put, List.setIfInBounds_toArray, List.set_cons_zero, List.set_cons_succ, i64_w, i32_w]
      rfl
    refine one_ (i := 2) (N := some 18) #[true, true, true, true, true, true, false, false] rfl rfl (one_of HT_.out (by kernel_rfl)) (by decide) (fun K hK => ?_)
    refine goes_ Try.func65 (by kernel_rfl) rfl #[.agg #[.bool a0_0, .int .u64 a0_1, .int .u64 a0_2], .int .u64 t133] (by rfl) rfl rfl (by (try simp only [List.map_toArray, List.map_cons, List.map_nil]); first | done | rfl | (simp only [List.length_drop, List.length_take]; rfl)) ?_
    with_reducible refine (ratio_wide_over.calls k a0_0 a0_1 a0_2 t133 t134 t135 t136 _ A5.out).mono ?_
    rintro e w13 ⟨rfl, hb⟩
    refine ⟨_, rfl, ?_⟩
    have n0_ := kb BK130 hb
    have n1_ := kb BK131 hb
    have n2_ := wb HB hb
    clear BK130
    clear BK131
    clear HB
    have BK130 := n0_
    have BK131 := n1_
    have HB := n2_
    clear n0_ n1_ n2_
    (try clear hb)
    (try clear hb2)
    (try clear hk)
    (try clear hi)
    refine hK.out _ _ ⟨(blk_cell BK130.out 0).trans rfl, (blk_cell BK130.out 1).trans rfl, (blk_cell BK130.out 2).trans rfl⟩ (fun hHeld => ?_)
    clear hK K
    refine norm_ (a' := ?_) ?_ ?_
    rotate_left
    · show Act.put _ (some 18) _ = _
      simp only [Act.put, List.setIfInBounds_toArray, List.set_cons_zero, List.set_cons_succ, i64_w, i32_w]
      rfl
    refine last_ (i := 6) (N := none) #[true, true, true, true, true, true, true, false] rfl rfl (one_of HT_.out (by kernel_rfl)) (by decide) (fun K hK => ?_)
    have hs14 : w13.cell? ⟨gb130, 0, none⟩ = some (.bool a0_0) := (blk_cell BK130.out 0).trans rfl
    have hfs14 := blk_frozen BK130.out 0
    have hns14_1 := NB131_130.out
    have hms14_1 := NB130_131.out
    have hs15 : w13.cell? ⟨gb130, 1, none⟩ = some (.int .u64 a0_1) := (blk_cell BK130.out 1).trans rfl
    have hfs15 := blk_frozen BK130.out 1
    have hns15_1 := NB131_130.out
    have hms15_1 := NB130_131.out
    have hs16 : w13.cell? ⟨gb130, 2, none⟩ = some (.int .u64 a0_2) := (blk_cell BK130.out 2).trans rfl
    have hfs16 := blk_frozen BK130.out 2
    have hns16_1 := NB131_130.out
    have hms16_1 := NB130_131.out
    refine skip_ (w1 := ?_) (by rfl) rfl ?_ ?_
    rotate_left
    · go_simp
      rfl
    refine hK.out _ _ ?_
    clear hK K
    refine pure_ (i := 7) (N := some 1) (v := ?_) (a' := ?_) #[true, true, true, true, true, true, true, true] rfl rfl (any_of HT_.out (by kernel_rfl)) (fun _ _ _ h => h) (Or.inl ⟨by rfl, ?_⟩) ?_ ?_
    rotate_left
    · intro w'
      go_simp
      with_reducible rfl
    rotate_left
    · simp only [Act.put, List.setIfInBounds_toArray, List.set_cons_zero, List.set_cons_succ, i64_w, i32_w]
      rfl
    refine done_ (done_of HT_.out (by kernel_rfl)) ?_
    go_upto_region 3 with (fail)
    go_cut [33] (fun v33 wc => ∃ (kq : Nat) (x33_6 : Bool), v33 = .bool x33_6 ∧ Aside0 (ratio_lowest.j0 kq (IntKind.u64.wrap (Int.tdiv a1 t133)) x33_6 t134 t135 t136 = some (r1, r2, r3)) ∧ Aside0 (kq ≤ k) ∧ Aside0 (wc.heap[gb130]? = some (.cells #[.bool t134, .int .u64 t135, .int .u64 t136] 58 (0, 0))) ∧ Aside0 (wc.heap[gb131]? = some (.cells #[.int .i64 0, .int .i64 0] 35 (0, 0))) ∧ Aside0 (Below w.heap.size w wc))
    case first =>
      have H := HC7.out
      clear HC7
      by_cases c17 : t135 = 0
      · rw [if_pos c17] at H
        have c17b0 : (t135 == 0) = true := beq_iff_eq.mpr c17
        have c17b1 : (t135 != 0) = false := bne_eq_false_iff_eq.mpr c17
        clear c17
        (first | rw [c17b0] | (simp only [i64_w, i32_w]; rw [c17b0]) | skip)
        by_cases c18 : t136 > 1152921504606846976
        · rw [if_pos c18] at H
          have c18b0 : decide (1152921504606846976 < t136) = true := decide_eq_true c18
          clear c18
          have H' := Aside0.mk H
          clear H
          obtain ⟨hnb19, hnc19⟩ := n2 NB130_131
          have hcz20_0 : w13.cell? ⟨gb130, 0, none⟩ = some (.bool a0_0) := (blk_cell BK130.out 0).trans rfl
          have hcz20_1 : w13.cell? ⟨gb130, 1, none⟩ = some (.int .u64 a0_1) := (blk_cell BK130.out 1).trans rfl
          have hcz20_2 : w13.cell? ⟨gb130, 2, none⟩ = some (.int .u64 a0_2) := (blk_cell BK130.out 2).trans rfl
          have hfz20_0 := blk_frozen BK130.out 0
          have hfz20_1 := blk_frozen BK130.out 1
          have hfz20_2 := blk_frozen BK130.out 2
          go_wp2
          go_meet
          case rel => exact ⟨_, (true), (by first | rfl | (simp; done) | (simp [*]; done)), H', ⟨by first | omega | exact Nat.le_refl _⟩, ⟨by refine pe ?_; refine blk_put (cs := #[.bool t134, .int .u64 t135, .int .u64 a0_2]) ?_ 2 _ rfl; refine pe ?_; refine blk_put (cs := #[.bool t134, .int .u64 a0_1, .int .u64 a0_2]) ?_ 1 _ rfl; refine pe ?_; refine blk_put (cs := #[.bool a0_0, .int .u64 a0_1, .int .u64 a0_2]) ?_ 0 _ rfl; refine pe ?_; exact BK130.out⟩, ⟨bq BK131⟩, ⟨bw HB⟩⟩
        · rw [if_neg c18] at H
          have c18b0 : decide (1152921504606846976 < t136) = false := decide_eq_false c18
          clear c18
          have H' := Aside0.mk H
          clear H
          obtain ⟨hnb21, hnc21⟩ := n2 NB130_131
          have hcz22_0 : w13.cell? ⟨gb130, 0, none⟩ = some (.bool a0_0) := (blk_cell BK130.out 0).trans rfl
          have hcz22_1 : w13.cell? ⟨gb130, 1, none⟩ = some (.int .u64 a0_1) := (blk_cell BK130.out 1).trans rfl
          have hcz22_2 : w13.cell? ⟨gb130, 2, none⟩ = some (.int .u64 a0_2) := (blk_cell BK130.out 2).trans rfl
          have hfz22_0 := blk_frozen BK130.out 0
          have hfz22_1 := blk_frozen BK130.out 1
          have hfz22_2 := blk_frozen BK130.out 2
          go_wp2
          go_meet
          case rel => exact ⟨_, (decide ((IntKind.u64.wrap (Int.tdiv a1 t133)) > 1152921504606846976)), (by first | rfl | (simp; done) | (simp [*]; done)), H', ⟨by first | omega | exact Nat.le_refl _⟩, ⟨by refine pe ?_; refine blk_put (cs := #[.bool t134, .int .u64 t135, .int .u64 a0_2]) ?_ 2 _ rfl; refine pe ?_; refine blk_put (cs := #[.bool t134, .int .u64 a0_1, .int .u64 a0_2]) ?_ 1 _ rfl; refine pe ?_; refine blk_put (cs := #[.bool a0_0, .int .u64 a0_1, .int .u64 a0_2]) ?_ 0 _ rfl; refine pe ?_; exact BK130.out⟩, ⟨bq BK131⟩, ⟨bw HB⟩⟩
      · rw [if_neg c17] at H
        have c17b0 : (t135 == 0) = false := beq_eq_false_iff_ne.mpr c17
        have c17b1 : (t135 != 0) = true := bne_iff_ne.mpr c17
        (first | rw [c17b0] | (simp only [i64_w, i32_w]; rw [c17b0]) | skip)
        have H' := Aside0.mk H
        clear H
        obtain ⟨hnb23, hnc23⟩ := n2 NB130_131
        have hcz24_0 : w13.cell? ⟨gb130, 0, none⟩ = some (.bool a0_0) := (blk_cell BK130.out 0).trans rfl
        have hcz24_1 : w13.cell? ⟨gb130, 1, none⟩ = some (.int .u64 a0_1) := (blk_cell BK130.out 1).trans rfl
        have hcz24_2 : w13.cell? ⟨gb130, 2, none⟩ = some (.int .u64 a0_2) := (blk_cell BK130.out 2).trans rfl
        have hfz24_0 := blk_frozen BK130.out 0
        have hfz24_1 := blk_frozen BK130.out 1
        have hfz24_2 := blk_frozen BK130.out 2
        go_wp2
        go_meet
        case rel => exact ⟨_, (true), (by first | rfl | (simp; done) | (simp [*]; done)), H', ⟨by first | omega | exact Nat.le_refl _⟩, ⟨by refine pe ?_; refine blk_put (cs := #[.bool t134, .int .u64 t135, .int .u64 a0_2]) ?_ 2 _ rfl; refine pe ?_; refine blk_put (cs := #[.bool t134, .int .u64 a0_1, .int .u64 a0_2]) ?_ 1 _ rfl; refine pe ?_; refine blk_put (cs := #[.bool a0_0, .int .u64 a0_1, .int .u64 a0_2]) ?_ 0 _ rfl; refine pe ?_; exact BK130.out⟩, ⟨bq BK131⟩, ⟨bw HB⟩⟩
    case rest =>
      clear HC7
      try clear c1
      try clear c2
      try clear p2
      try clear c4
      try clear c5
      try clear c6
      try clear c6b0
      try clear c6b1
      try clear c10
      try clear c17
      try clear c17b0
      try clear c17b1
      try clear c18
      try clear c18b0
      try clear c19
      try clear c21
      try clear c23
      try clear hcz11_0
      try clear hcz11_1
      try clear hcz11_2
      try clear hcz20_0
      try clear hcz20_1
      try clear hcz20_2
      try clear hcz22_0
      try clear hcz22_1
      try clear hcz22_2
      try clear hcz24_0
      try clear hcz24_1
      try clear hcz24_2
      try clear hfz11_0
      try clear hfz11_1
      try clear hfz11_2
      try clear hfz20_0
      try clear hfz20_1
      try clear hfz20_2
      try clear hfz22_0
      try clear hfz22_1
      try clear hfz22_2
      try clear hfz24_0
      try clear hfz24_1
      try clear hfz24_2
      obtain ⟨kq, x33_6, rfl, HA, HJ6, BK130, BK131, HB⟩ := hcut
      cases kq with
      | zero => exact absurd HA.out (by simp [ratio_lowest.j0])
      | succ kj6 =>
        have H := HA.out
        clear HA
        simp only [ratio_lowest.j0] at H
        by_cases c25 : x33_6 = true
        · subst c25
          have H1 : (some (0, 0, 6)) = some (r1, r2, r3) := by rw [if_pos rfl] at H; exact H
          clear H
          have H := H1
          clear H1
          simp only [Option.some.injEq, Prod.mk.injEq] at H
          obtain ⟨rfl, rfl, rfl⟩ := H
          obtain ⟨hnb26, hnc26⟩ := n2 NB131_130
          have hcz27_0 : wc.cell? ⟨gb131, 0, none⟩ = some (.int .i64 0) := (blk_cell BK131.out 0).trans rfl
          have hcz27_1 : wc.cell? ⟨gb131, 1, none⟩ = some (.int .i64 0) := (blk_cell BK131.out 1).trans rfl
          have hfz27_0 := blk_frozen BK131.out 0
          have hfz27_1 := blk_frozen BK131.out 1
          go_wp2
          refine bodyPost_ret (results_ct rfl _ _ gb131 35 #[.int .i64 0, .int .i64 0] (0, 0) _ rfl (by refine pe ?_; refine blk_put (cs := #[.int .i64 0, .int .i64 0]) ?_ 1 _ rfl; refine pe ?_; refine blk_put (cs := #[.int .i64 0, .int .i64 0]) ?_ 0 _ rfl; refine pe ?_; exact BK131.out) Try.underlying35 rfl (by kernel_rfl)) rfl ?_
          exact ⟨by first | rfl | (simp [errW_none, errW_some] <;> rfl) | (simp [*, errW_none, errW_some] <;> rfl), bw HB⟩
        · replace c25 := Bool.eq_false_iff.mpr c25
          subst c25
          have H1 : (if t134 = true then (some (wrap64 (-(wrap64 (t136))), wrap64 ((IntKind.u64.wrap (Int.tdiv a1 t133))), 0)) else (some (wrap64 (t136), wrap64 ((IntKind.u64.wrap (Int.tdiv a1 t133))), 0))) = some (r1, r2, r3) := by rw [if_neg (show ¬ (false = true) by decide)] at H; exact H
          clear H
          have H := H1
          clear H1
          by_cases c28 : t134 = true
          · subst c28
            have H1 : (some (wrap64 (-(wrap64 (t136))), wrap64 ((IntKind.u64.wrap (Int.tdiv a1 t133))), 0)) = some (r1, r2, r3) := by rw [if_pos rfl] at H; exact H
            clear H
            have H := H1
            clear H1
            simp only [Option.some.injEq, Prod.mk.injEq] at H
            obtain ⟨rfl, rfl, rfl⟩ := H
            obtain ⟨hnb29, hnc29⟩ := n2 NB130_131
            have hcz30_0 : wc.cell? ⟨gb130, 0, none⟩ = some (.bool true) := (blk_cell BK130.out 0).trans rfl
            have hcz30_1 : wc.cell? ⟨gb130, 1, none⟩ = some (.int .u64 t135) := (blk_cell BK130.out 1).trans rfl
            have hcz30_2 : wc.cell? ⟨gb130, 2, none⟩ = some (.int .u64 t136) := (blk_cell BK130.out 2).trans rfl
            have hfz30_0 := blk_frozen BK130.out 0
            have hfz30_1 := blk_frozen BK130.out 1
            have hfz30_2 := blk_frozen BK130.out 2
            have hcz31_0 : wc.cell? ⟨gb131, 0, none⟩ = some (.int .i64 0) := (blk_cell BK131.out 0).trans rfl
            have hcz31_1 : wc.cell? ⟨gb131, 1, none⟩ = some (.int .i64 0) := (blk_cell BK131.out 1).trans rfl
            have hfz31_0 := blk_frozen BK131.out 0
            have hfz31_1 := blk_frozen BK131.out 1
            go_wp2
            refine bodyPost_ret (results_ct rfl _ _ gb131 35 #[.int .i64 (wrap64 (-(wrap64 (t136)))), .int .i64 (wrap64 ((IntKind.u64.wrap (Int.tdiv a1 t133))))] (0, 0) _ rfl (by refine pe ?_; refine blk_put (cs := #[.int .i64 (wrap64 (-(wrap64 (t136)))), .int .i64 0]) ?_ 1 _ rfl; refine pe ?_; refine blk_put (cs := #[.int .i64 0, .int .i64 0]) ?_ 0 _ rfl; refine pe ?_; exact BK131.out) Try.underlying35 rfl (by kernel_rfl)) rfl ?_
            exact ⟨by first | rfl | (simp [errW_none, errW_some] <;> rfl) | (simp [*, errW_none, errW_some] <;> rfl), bw HB⟩
          · replace c28 := Bool.eq_false_iff.mpr c28
            subst c28
            have H1 : (some (wrap64 (t136), wrap64 ((IntKind.u64.wrap (Int.tdiv a1 t133))), 0)) = some (r1, r2, r3) := by rw [if_neg (show ¬ (false = true) by decide)] at H; exact H
            clear H
            have H := H1
            clear H1
            simp only [Option.some.injEq, Prod.mk.injEq] at H
            obtain ⟨rfl, rfl, rfl⟩ := H
            obtain ⟨hnb32, hnc32⟩ := n2 NB130_131
            have hcz33_0 : wc.cell? ⟨gb130, 0, none⟩ = some (.bool false) := (blk_cell BK130.out 0).trans rfl
            have hcz33_1 : wc.cell? ⟨gb130, 1, none⟩ = some (.int .u64 t135) := (blk_cell BK130.out 1).trans rfl
            have hcz33_2 : wc.cell? ⟨gb130, 2, none⟩ = some (.int .u64 t136) := (blk_cell BK130.out 2).trans rfl
            have hfz33_0 := blk_frozen BK130.out 0
            have hfz33_1 := blk_frozen BK130.out 1
            have hfz33_2 := blk_frozen BK130.out 2
            have hcz34_0 : wc.cell? ⟨gb131, 0, none⟩ = some (.int .i64 0) := (blk_cell BK131.out 0).trans rfl
            have hcz34_1 : wc.cell? ⟨gb131, 1, none⟩ = some (.int .i64 0) := (blk_cell BK131.out 1).trans rfl
            have hfz34_0 := blk_frozen BK131.out 0
            have hfz34_1 := blk_frozen BK131.out 1
            go_wp2
            refine bodyPost_ret (results_ct rfl _ _ gb131 35 #[.int .i64 (wrap64 (t136)), .int .i64 (wrap64 ((IntKind.u64.wrap (Int.tdiv a1 t133))))] (0, 0) _ rfl (by refine pe ?_; refine blk_put (cs := #[.int .i64 (wrap64 (t136)), .int .i64 0]) ?_ 1 _ rfl; refine pe ?_; refine blk_put (cs := #[.int .i64 0, .int .i64 0]) ?_ 0 _ rfl; refine pe ?_; exact BK131.out) Try.underlying35 rfl (by kernel_rfl)) rfl ?_
            exact ⟨by first | rfl | (simp [errW_none, errW_some] <;> rfl) | (simp [*, errW_none, errW_some] <;> rfl), bw HB⟩

end Go.Proofs.Ytcbohbeipgcfhaa.G
