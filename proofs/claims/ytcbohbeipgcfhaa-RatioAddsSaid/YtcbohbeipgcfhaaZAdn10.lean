/- Texts of this claim laid together: Gf40. -/
import Derived.Test.YtcbohbeipgcfhaaG0
import Derived.Test.YtcbohbeipgcfhaaZAdn9
import Derived.Test.YtcbohbeipgcfhaaZAdn4
-- Printed by gp.py (a program of this session's own, over the kit's printer) out of the translation; Lean checks it.
namespace Go.Proofs.Ytcbohbeipgcfhaa.G
open Go.Proofs.Ytcbohbeipgcfhaa.Given Go.Proofs.Ytcbohbeipgcfhaa.Short
open Go.RowKit Go.Proofs.YtcbohbeipgcfhaaW.PrintWords Go.Proofs.YtcbohbeipgcfhaaW.PrintLast Go.Proofs.YtcbohbeipgcfhaaW.PrintMore
attribute [local go_sem] max2_int min2_int max_two min_two max_three min_three max_four min_four   -- for this text's walks alone
set_option linter.unusedVariables false
set_option linter.unusedSimpArgs false

/-! ### awardingbodyref01_Add: function 40 -/
def awardingbodyref01_Add.j0 : Nat → Bool → Int → Int → Int → Int → Option (Int × Int × Int)
 | 0, _, _, _, _, _ => none
 | k + 1, x15, x703000, x703001, x704000, x704001 => if x15 = true then (some (0, 0, 1)) else ((awardingbodyref01_Size.f x703000).bind fun t707 => ((awardingbodyref01_Size.f x704001).bind fun t708 => ((awardingbodyref01_Product.f t707 t708).bind fun bt709 => ((awardingbodyref01_Size.f x704000).bind fun t711 => ((awardingbodyref01_Size.f x703001).bind fun t712 => ((awardingbodyref01_Product.f t711 t712).bind fun bt713 => ((awardingbodyref01_total.f k (decide (x703000 < 0)) bt709.1 bt709.2 (decide (x704000 < 0)) bt713.1 bt713.2).bind fun bt715 => ((awardingbodyref01_Size.f x703001).bind fun t719 => ((awardingbodyref01_Size.f x704001).bind fun t720 => ((awardingbodyref01_Product.f t719 t720).bind fun bt721 => ((awardingbodyref01_Reduce.f k bt715.1 bt715.2.1 bt715.2.2 bt721.1 bt721.2).bind fun bt723 => (some (bt723.1, bt723.2.1, bt723.2.2)))))))))))))
def awardingbodyref01_Add.f (k : Nat) (a0_0 : Int) (a0_1 : Int) (a1_0 : Int) (a1_1 : Int) : Option (Int × Int × Int) := (awardingbodyref01_Valid.f k a0_0 a0_1).bind fun t705 => (if t705 = true then ((awardingbodyref01_Valid.f k a1_0 a1_1).bind fun t706 => (awardingbodyref01_Add.j0 k (!t706) a0_0 a0_1 a1_0 a1_1)) else (awardingbodyref01_Add.j0 k true a0_0 a0_1 a1_0 a1_1))
theorem awardingbodyref01_Add.mono_l : ∀ k, (∀ y0 y1 y2 y3 y4, LeO (awardingbodyref01_Add.j0 k y0 y1 y2 y3 y4) (awardingbodyref01_Add.j0 (k + 1) y0 y1 y2 y3 y4))
 | 0 => fun _ _ _ _ _ r h => by simp [awardingbodyref01_Add.j0] at h
 | k + 1 => by
  have ih0 := awardingbodyref01_Add.mono_l k
  ·intro y0 y1 y2 y3 y4
   unfold awardingbodyref01_Add.j0
   repeat' first
   | (with_reducible exact ih0 _ _ _ _ _)
   | (with_reducible exact awardingbodyref01_Reduce.mono _ _ _ _ _ _)
   | (with_reducible exact awardingbodyref01_Valid.mono _ _ _)
   | (with_reducible exact awardingbodyref01_total.mono _ _ _ _ _ _ _)
   | (with_reducible exact LeO.refl _)
   | (with_reducible exact LeO.none _)
   | (with_reducible refine LeO.ite ?_ ?_)
   | (with_reducible refine LeO.bind ?_ (fun _ => ?_))
   | exact ih0 _ _ _ _ _
   | exact awardingbodyref01_Reduce.mono _ _ _ _ _ _
   | exact awardingbodyref01_Valid.mono _ _ _
   | exact awardingbodyref01_total.mono _ _ _ _ _ _ _
   | exact LeO.none _
   | refine LeO.ite ?_ ?_
   | refine LeO.bind ?_ (fun _ => ?_)
theorem awardingbodyref01_Add.mono : ∀ a0 a1 a2 a3 k, LeO (awardingbodyref01_Add.f k a0 a1 a2 a3) (awardingbodyref01_Add.f (k + 1) a0 a1 a2 a3) := by
 intro a0 a1 a2 a3 k
 have ih0 := awardingbodyref01_Add.mono_l k
 unfold awardingbodyref01_Add.f
 repeat' first
   | (with_reducible exact ih0 _ _ _ _ _)
   | (with_reducible exact awardingbodyref01_Reduce.mono _ _ _ _ _ _)
   | (with_reducible exact awardingbodyref01_Valid.mono _ _ _)
   | (with_reducible exact awardingbodyref01_total.mono _ _ _ _ _ _ _)
   | (with_reducible exact LeO.refl _)
   | (with_reducible exact LeO.none _)
   | (with_reducible refine LeO.ite ?_ ?_)
   | (with_reducible refine LeO.bind ?_ (fun _ => ?_))
   | exact ih0 _ _ _ _ _
   | exact awardingbodyref01_Reduce.mono _ _ _ _ _ _
   | exact awardingbodyref01_Valid.mono _ _ _
   | exact awardingbodyref01_total.mono _ _ _ _ _ _ _
   | exact LeO.none _
   | refine LeO.ite ?_ ?_
   | refine LeO.bind ?_ (fun _ => ?_)
def awardingbodyref01_Add.T3 : Bool × List (List Nat × List Nat) := (true, [([], []), ([0], [0]), ([1], [1]), ([], []), ([3], [3]), ([4], [4]), ([], []), ([6], [6]), ([7, 5], [7]), ([5, 8, 8], [5, 8]), ([], []), ([10], [10]), ([11], [11]), ([], []), ([13], [13]), ([14, 9], [14]), ([], []), ([16], [16]), ([17, 15], [17]), ([15, 18, 18], [15, 18]), ([2, 9, 12, 19, 19], [2, 9, 12, 19]), ([20], [20]), ([21], [21]), ([21], [21]), ([], []), ([22, 20, 0, 1, 2, 3, 4, 5, 6, 7, 8, 9, 10, 11, 12, 13, 14, 15, 16, 17, 18, 19, 20, 21, 22, 24], [22]), ([24, 23, 25, 0, 1, 2, 3, 4, 5, 6, 7, 8, 9, 10, 11, 12, 13, 14, 15, 16, 17, 18, 19, 20, 21, 22, 23, 24, 25], [23, 24])])
def awardingbodyref01_Add.B3 : List Nat := [0, 1, 3, 0, 8, 24, 0, 64, 248, 504, 0, 1024, 3072, 0, 8192, 25592, 0, 65536, 254968, 517112, 1048575, 2097151, 4194303, 4194303, 0, 25165823, 67108863]
theorem awardingbodyref01_Add.tab3 : rtab .any (opsOf Try.f40 3) = awardingbodyref01_Add.T3 := by kernel_rfl
theorem awardingbodyref01_Add.bits3 : waitsOk awardingbodyref01_Add.T3.2 awardingbodyref01_Add.B3 = true := by kernel_rfl
def awardingbodyref01_Add.T4 : Bool × List (List Nat × List Nat) := (true, [([], []), ([], []), ([], []), ([2], [2]), ([3], [3]), ([], []), ([5], [5]), ([6, 4], [6]), ([4, 7, 7], [4, 7]), ([0, 1, 8, 8], [0, 1, 8]), ([9], [9]), ([9], [9]), ([10, 9, 0, 1, 2, 3, 4, 5, 6, 7, 8, 9, 10, 11], [10]), ([11, 12, 0, 1, 2, 3, 4, 5, 6, 7, 8, 9, 10, 11, 12], [11])])
def awardingbodyref01_Add.B4 : List Nat := [0, 0, 0, 4, 12, 0, 32, 124, 252, 511, 1023, 1023, 4095, 8191]
theorem awardingbodyref01_Add.tab4 : rtab .any (opsOf Try.f40 4) = awardingbodyref01_Add.T4 := by kernel_rfl
theorem awardingbodyref01_Add.bits4 : waitsOk awardingbodyref01_Add.T4.2 awardingbodyref01_Add.B4 = true := by kernel_rfl
set_option maxHeartbeats 8000000 in
set_option maxRecDepth 100000 in
theorem awardingbodyref01_Add.calls (k : Nat) (a0_0 : Int) (a0_1 : Int) (a1_0 : Int) (a1_1 : Int) (r1 : Int) (r2 : Int) (r3 : Int) (w : World) (h : awardingbodyref01_Add.f k a0_0 a0_1 a1_0 a1_1 = some (r1, r2, r3)) :
  Calls Try.prog 40 #[.agg #[.int .i64 a0_0, .int .i64 a0_1], .agg #[.int .i64 a1_0, .int .i64 a1_1]] w fun e w' => e = .returned (.tuple #[.agg #[.int .i64 r1, .int .i64 r2], .int .i64 r3]) ∧ Below w.heap.size w w' := by
 have hu35 := Try.underlying35
 have hu61 := Try.underlying61
 have HB := Aside0.mk (Below.refl w.heap.size w)
 have H : ((awardingbodyref01_Valid.f k a0_0 a0_1).bind fun t705 => (if t705 = true then ((awardingbodyref01_Valid.f k a1_0 a1_1).bind fun t706 => (awardingbodyref01_Add.j0 k (!t706) a0_0 a0_1 a1_0 a1_1)) else (awardingbodyref01_Add.j0 k true a0_0 a0_1 a1_0 a1_1))) = some (r1, r2, r3) := h
 clear h
 have HC3 := Aside0.mk H
 clear H
 go_enter Try.func40, Try.ntmps40
 go_upto_region 1 with (first | ((with_reducible refine gate_dst (N := 2) rfl ?_); refine box_event ?hg (N := 2) ?hd (cs := #[.int .i64 a0_0, .int .i64 a0_1]) (t := 35) ?hr ?_; (case hd => rfl); (case hg => rfl); (case hr => first | (go_simp; done) | (go_simp; rfl)); intro gb702 hg w4 hbox hb; have BK702 := Aside0.mk (hbox); have GW702 := gs HB hg; have GE702 := gs HB hg; replace HB := wb HB hb; clear hb hbox hg) | ((with_reducible refine gate_dst (N := 3) rfl ?_); refine box_event ?hg (N := 3) ?hd (cs := #[.int .i64 a1_0, .int .i64 a1_1]) (t := 35) ?hr ?_; (case hd => rfl); (case hg => rfl); (case hr => first | (go_simp; done) | (go_simp; rfl)); intro gb703 hg w5 hbox hb; have BK703 := Aside0.mk (hbox); have GW703 := gs HB hg; have GE703 := gs HB hg; have NB702_703 := nl BK702 hg; have NB703_702 := nr BK702 hg; replace BK702 := kb BK702 hb; replace HB := wb HB hb; clear hb hbox hg) | ((with_reducible refine gate_dst (N := 4) rfl ?_); refine box_event ?hg (N := 4) ?hd (cs := #[.int .i64 0, .int .i64 0]) (t := 35) ?hr ?_; (case hd => rfl); (case hg => rfl); (case hr => first | (go_simp; done) | (go_simp; rfl)); intro gb704 hg w6 hbox hb; have BK704 := Aside0.mk (hbox); have GW704 := gs HB hg; have GE704 := gs HB hg; have NB702_704 := nl BK702 hg; have NB704_702 := nr BK702 hg; have NB703_704 := nl BK703 hg; have NB704_703 := nr BK703 hg; replace BK702 := kb BK702 hb; replace BK703 := kb BK703 hb; replace HB := wb HB hb; clear hb hbox hg))
 (try simp only [Act.put, List.setIfInBounds_toArray, List.set_cons_zero, List.set_cons_succ])
 go_cut [15] (fun v15 wc => ∃ (kq : Nat) (x15_2 : Bool), v15 = .bool x15_2 ∧ Aside0 (awardingbodyref01_Add.j0 kq x15_2 a0_0 a0_1 a1_0 a1_1 = some (r1, r2, r3)) ∧ Aside0 (kq ≤ k) ∧ Aside0 (wc.heap[gb702]? = some (.cells #[.int .i64 a0_0, .int .i64 a0_1] 35 (0, 0))) ∧ Aside0 (wc.heap[gb703]? = some (.cells #[.int .i64 a1_0, .int .i64 a1_1] 35 (0, 0))) ∧ Aside0 (wc.heap[gb704]? = some (.cells #[.int .i64 0, .int .i64 0] 35 (0, 0))) ∧ Aside0 (Below w.heap.size w wc))
 case first =>
  have H := HC3.out
  clear HC3
  replace H := Option.bind_eq_some_iff.mp H
  obtain ⟨t705, A70, H⟩ := H
  replace H : (if t705 = true then ((awardingbodyref01_Valid.f k a1_0 a1_1).bind fun t706 => (awardingbodyref01_Add.j0 k (!t706) a0_0 a0_1 a1_0 a1_1)) else (awardingbodyref01_Add.j0 k true a0_0 a0_1 a1_0 a1_1)) = some (r1, r2, r3) := H
  have A7 := Aside0.mk A70
  clear A70
  by_cases c8 : t705 = true
  ·subst c8
   have H1 : ((awardingbodyref01_Valid.f k a1_0 a1_1).bind fun t706 => (awardingbodyref01_Add.j0 k (!t706) a0_0 a0_1 a1_0 a1_1)) = some (r1, r2, r3) := by rw [if_pos rfl] at H; exact H
   clear H
   have H := H1
   clear H1
   replace H := Option.bind_eq_some_iff.mp H
   obtain ⟨t706, A90, H⟩ := H
   replace H : (awardingbodyref01_Add.j0 k (!t706) a0_0 a0_1 a1_0 a1_1) = some (r1, r2, r3) := H
   have A9 := Aside0.mk A90
   clear A90
   have H' := Aside0.mk H
   clear H
   obtain ⟨hnb10, hnc10⟩ := n2 NB702_703
   obtain ⟨hnb11, hnc11⟩ := n2 NB702_704
   have hcz12_0 : w6.cell? ⟨gb702, 0, none⟩ = some (.int .i64 a0_0) := (blk_cell BK702.out 0).trans rfl
   have hcz12_1 : w6.cell? ⟨gb702, 1, none⟩ = some (.int .i64 a0_1) := (blk_cell BK702.out 1).trans rfl
   have hfz12_0 := blk_frozen BK702.out 0
   have hfz12_1 := blk_frozen BK702.out 1
   go_wp2_with (first | ((with_reducible refine gate_callee (f := 25) rfl ?_); refine goesL_ (some 9) rfl rfl Try.func25 (by kernel_rfl) rfl #[.agg #[.int .i64 a0_0, .int .i64 a0_1]] rfl (by (try simp only [List.map_toArray, List.map_cons, List.map_nil]); first | done | rfl | (simp only [List.length_drop, List.length_take]; rfl)) ?_; (with_reducible refine (awardingbodyref01_Valid.calls k a0_0 a0_1 true _ A7.out).mono ?_); rintro e w13 ⟨rfl, hb⟩; refine ⟨_, rfl, ?_⟩; replace BK702 := kb BK702 hb; replace BK703 := kb BK703 hb; replace BK704 := kb BK704 hb; replace HB := wb HB hb; (try clear hb); (try clear hb2); (try clear hk); (try clear hi); obtain ⟨hnb14, hnc14⟩ := n2 NB703_704; have hcz15_0 : w13.cell? ⟨gb703, 0, none⟩ = some (.int .i64 a1_0) := (blk_cell BK703.out 0).trans rfl; have hcz15_1 : w13.cell? ⟨gb703, 1, none⟩ = some (.int .i64 a1_1) := (blk_cell BK703.out 1).trans rfl; have hfz15_0 := blk_frozen BK703.out 0; have hfz15_1 := blk_frozen BK703.out 1) | (go_at_call 25; (with_reducible refine (awardingbodyref01_Valid.calls k a1_0 a1_1 t706 _ A9.out).mono ?_); rintro e w16 ⟨rfl, hb⟩; replace BK702 := kb BK702 hb; replace BK703 := kb BK703 hb; replace BK704 := kb BK704 hb; replace HB := wb HB hb; (try clear hb); (try clear hb2); (try clear hk); (try clear hi)))
   go_meet
   case rel => exact ⟨_, (!t706), (by first | rfl | (simp; done) | (simp [*]; done)), H', ⟨by first | omega | exact Nat.le_refl _⟩, ⟨bq BK702⟩, ⟨bq BK703⟩, ⟨bq BK704⟩, ⟨bw HB⟩⟩
  ·replace c8 := Bool.eq_false_iff.mpr c8
   subst c8
   have H1 : (awardingbodyref01_Add.j0 k true a0_0 a0_1 a1_0 a1_1) = some (r1, r2, r3) := by rw [if_neg (show ¬ (false = true) by decide)] at H; exact H
   clear H
   have H := H1
   clear H1
   have H' := Aside0.mk H
   clear H
   obtain ⟨hnb17, hnc17⟩ := n2 NB702_703
   obtain ⟨hnb18, hnc18⟩ := n2 NB702_704
   have hcz19_0 : w6.cell? ⟨gb702, 0, none⟩ = some (.int .i64 a0_0) := (blk_cell BK702.out 0).trans rfl
   have hcz19_1 : w6.cell? ⟨gb702, 1, none⟩ = some (.int .i64 a0_1) := (blk_cell BK702.out 1).trans rfl
   have hfz19_0 := blk_frozen BK702.out 0
   have hfz19_1 := blk_frozen BK702.out 1
   go_wp2_with (first | ((with_reducible refine gate_callee (f := 25) rfl ?_); refine goesL_ (some 9) rfl rfl Try.func25 (by kernel_rfl) rfl #[.agg #[.int .i64 a0_0, .int .i64 a0_1]] rfl (by (try simp only [List.map_toArray, List.map_cons, List.map_nil]); first | done | rfl | (simp only [List.length_drop, List.length_take]; rfl)) ?_; (with_reducible refine (awardingbodyref01_Valid.calls k a0_0 a0_1 false _ A7.out).mono ?_); rintro e w20 ⟨rfl, hb⟩; refine ⟨_, rfl, ?_⟩; replace BK702 := kb BK702 hb; replace BK703 := kb BK703 hb; replace BK704 := kb BK704 hb; replace HB := wb HB hb; (try clear hb); (try clear hb2); (try clear hk); (try clear hi)))
   go_meet
   case rel => exact ⟨_, (true), (by first | rfl | (simp; done) | (simp [*]; done)), H', ⟨by first | omega | exact Nat.le_refl _⟩, ⟨bq BK702⟩, ⟨bq BK703⟩, ⟨bq BK704⟩, ⟨bw HB⟩⟩
 case rest =>
  clear HC3
  try clear c1
  try clear c2
  try clear p2
  try clear c4
  try clear c8
  try clear c10
  try clear c11
  try clear c14
  try clear c17
  try clear c18
  try clear hcz12_0
  try clear hcz12_1
  try clear hcz15_0
  try clear hcz15_1
  try clear hcz19_0
  try clear hcz19_1
  try clear hfz12_0
  try clear hfz12_1
  try clear hfz15_0
  try clear hfz15_1
  try clear hfz19_0
  try clear hfz19_1
  obtain ⟨kq, x15_2, rfl, HA, HJ2, BK702, BK703, BK704, HB⟩ := hcut
  cases kq with
  | zero => exact absurd HA.out (by simp [awardingbodyref01_Add.j0])
  | succ kj2 =>
   have H := HA.out
   clear HA
   simp only [awardingbodyref01_Add.j0] at H
   by_cases c21 : x15_2 = true
   ·subst c21
    have H1 : (some (0, 0, 1)) = some (r1, r2, r3) := by rw [if_pos rfl] at H; exact H
    clear H
    have H := H1
    clear H1
    simp only [Option.some.injEq, Prod.mk.injEq] at H
    obtain ⟨rfl, rfl, rfl⟩ := H
    obtain ⟨hnb22, hnc22⟩ := n2 NB704_702
    obtain ⟨hnb23, hnc23⟩ := n2 NB704_703
    have hcz24_0 : wc.cell? ⟨gb704, 0, none⟩ = some (.int .i64 0) := (blk_cell BK704.out 0).trans rfl
    have hcz24_1 : wc.cell? ⟨gb704, 1, none⟩ = some (.int .i64 0) := (blk_cell BK704.out 1).trans rfl
    have hfz24_0 := blk_frozen BK704.out 0
    have hfz24_1 := blk_frozen BK704.out 1
    go_wp2
    refine bodyPost_ret (results_ct rfl _ _ gb704 35 #[.int .i64 0, .int .i64 0] (0, 0) _ rfl (by refine pe ?_; refine blk_put (cs := #[.int .i64 0, .int .i64 0]) ?_ 1 _ rfl; refine pe ?_; refine blk_put (cs := #[.int .i64 0, .int .i64 0]) ?_ 0 _ rfl; refine pe ?_; exact BK704.out) Try.underlying35 rfl (by kernel_rfl)) rfl ?_
    exact ⟨by first | rfl | (simp [errW_none, errW_some] <;> rfl) | (simp [*, errW_none, errW_some] <;> rfl), bw HB⟩
   ·replace c21 := Bool.eq_false_iff.mpr c21
    subst c21
    have H1 : ((awardingbodyref01_Size.f a0_0).bind fun t707 => ((awardingbodyref01_Size.f a1_1).bind fun t708 => ((awardingbodyref01_Product.f t707 t708).bind fun bt709 => ((awardingbodyref01_Size.f a1_0).bind fun t711 => ((awardingbodyref01_Size.f a0_1).bind fun t712 => ((awardingbodyref01_Product.f t711 t712).bind fun bt713 => ((awardingbodyref01_total.f kj2 (decide (a0_0 < 0)) bt709.1 bt709.2 (decide (a1_0 < 0)) bt713.1 bt713.2).bind fun bt715 => ((awardingbodyref01_Size.f a0_1).bind fun t719 => ((awardingbodyref01_Size.f a1_1).bind fun t720 => ((awardingbodyref01_Product.f t719 t720).bind fun bt721 => ((awardingbodyref01_Reduce.f kj2 bt715.1 bt715.2.1 bt715.2.2 bt721.1 bt721.2).bind fun bt723 => (some (bt723.1, bt723.2.1, bt723.2.2))))))))))))) = some (r1, r2, r3) := by rw [if_neg (show ¬ (false = true) by decide)] at H; exact H
    clear H
    have H := H1
    clear H1
    replace H := Option.bind_eq_some_iff.mp H
    obtain ⟨t707, A250, H⟩ := H
    replace H : ((awardingbodyref01_Size.f a1_1).bind fun t708 => ((awardingbodyref01_Product.f t707 t708).bind fun bt709 => ((awardingbodyref01_Size.f a1_0).bind fun t711 => ((awardingbodyref01_Size.f a0_1).bind fun t712 => ((awardingbodyref01_Product.f t711 t712).bind fun bt713 => ((awardingbodyref01_total.f kj2 (decide (a0_0 < 0)) bt709.1 bt709.2 (decide (a1_0 < 0)) bt713.1 bt713.2).bind fun bt715 => ((awardingbodyref01_Size.f a0_1).bind fun t719 => ((awardingbodyref01_Size.f a1_1).bind fun t720 => ((awardingbodyref01_Product.f t719 t720).bind fun bt721 => ((awardingbodyref01_Reduce.f kj2 bt715.1 bt715.2.1 bt715.2.2 bt721.1 bt721.2).bind fun bt723 => (some (bt723.1, bt723.2.1, bt723.2.2)))))))))))) = some (r1, r2, r3) := H
    have A25 := Aside0.mk A250
    clear A250
    replace H := Option.bind_eq_some_iff.mp H
    obtain ⟨t708, A260, H⟩ := H
    replace H : ((awardingbodyref01_Product.f t707 t708).bind fun bt709 => ((awardingbodyref01_Size.f a1_0).bind fun t711 => ((awardingbodyref01_Size.f a0_1).bind fun t712 => ((awardingbodyref01_Product.f t711 t712).bind fun bt713 => ((awardingbodyref01_total.f kj2 (decide (a0_0 < 0)) bt709.1 bt709.2 (decide (a1_0 < 0)) bt713.1 bt713.2).bind fun bt715 => ((awardingbodyref01_Size.f a0_1).bind fun t719 => ((awardingbodyref01_Size.f a1_1).bind fun t720 => ((awardingbodyref01_Product.f t719 t720).bind fun bt721 => ((awardingbodyref01_Reduce.f kj2 bt715.1 bt715.2.1 bt715.2.2 bt721.1 bt721.2).bind fun bt723 => (some (bt723.1, bt723.2.1, bt723.2.2))))))))))) = some (r1, r2, r3) := H
    have A26 := Aside0.mk A260
    clear A260
    replace H := Option.bind_eq_some_iff.mp H
    obtain ⟨⟨t709, t710⟩, A270, H⟩ := H
    replace H : ((awardingbodyref01_Size.f a1_0).bind fun t711 => ((awardingbodyref01_Size.f a0_1).bind fun t712 => ((awardingbodyref01_Product.f t711 t712).bind fun bt713 => ((awardingbodyref01_total.f kj2 (decide (a0_0 < 0)) t709 t710 (decide (a1_0 < 0)) bt713.1 bt713.2).bind fun bt715 => ((awardingbodyref01_Size.f a0_1).bind fun t719 => ((awardingbodyref01_Size.f a1_1).bind fun t720 => ((awardingbodyref01_Product.f t719 t720).bind fun bt721 => ((awardingbodyref01_Reduce.f kj2 bt715.1 bt715.2.1 bt715.2.2 bt721.1 bt721.2).bind fun bt723 => (some (bt723.1, bt723.2.1, bt723.2.2)))))))))) = some (r1, r2, r3) := H
    have A27 := Aside0.mk A270
    clear A270
    replace H := Option.bind_eq_some_iff.mp H
    obtain ⟨t711, A280, H⟩ := H
    replace H : ((awardingbodyref01_Size.f a0_1).bind fun t712 => ((awardingbodyref01_Product.f t711 t712).bind fun bt713 => ((awardingbodyref01_total.f kj2 (decide (a0_0 < 0)) t709 t710 (decide (a1_0 < 0)) bt713.1 bt713.2).bind fun bt715 => ((awardingbodyref01_Size.f a0_1).bind fun t719 => ((awardingbodyref01_Size.f a1_1).bind fun t720 => ((awardingbodyref01_Product.f t719 t720).bind fun bt721 => ((awardingbodyref01_Reduce.f kj2 bt715.1 bt715.2.1 bt715.2.2 bt721.1 bt721.2).bind fun bt723 => (some (bt723.1, bt723.2.1, bt723.2.2))))))))) = some (r1, r2, r3) := H
    have A28 := Aside0.mk A280
    clear A280
    replace H := Option.bind_eq_some_iff.mp H
    obtain ⟨t712, A290, H⟩ := H
    replace H : ((awardingbodyref01_Product.f t711 t712).bind fun bt713 => ((awardingbodyref01_total.f kj2 (decide (a0_0 < 0)) t709 t710 (decide (a1_0 < 0)) bt713.1 bt713.2).bind fun bt715 => ((awardingbodyref01_Size.f a0_1).bind fun t719 => ((awardingbodyref01_Size.f a1_1).bind fun t720 => ((awardingbodyref01_Product.f t719 t720).bind fun bt721 => ((awardingbodyref01_Reduce.f kj2 bt715.1 bt715.2.1 bt715.2.2 bt721.1 bt721.2).bind fun bt723 => (some (bt723.1, bt723.2.1, bt723.2.2)))))))) = some (r1, r2, r3) := H
    have A29 := Aside0.mk A290
    clear A290
    replace H := Option.bind_eq_some_iff.mp H
    obtain ⟨⟨t713, t714⟩, A300, H⟩ := H
    replace H : ((awardingbodyref01_total.f kj2 (decide (a0_0 < 0)) t709 t710 (decide (a1_0 < 0)) t713 t714).bind fun bt715 => ((awardingbodyref01_Size.f a0_1).bind fun t719 => ((awardingbodyref01_Size.f a1_1).bind fun t720 => ((awardingbodyref01_Product.f t719 t720).bind fun bt721 => ((awardingbodyref01_Reduce.f kj2 bt715.1 bt715.2.1 bt715.2.2 bt721.1 bt721.2).bind fun bt723 => (some (bt723.1, bt723.2.1, bt723.2.2))))))) = some (r1, r2, r3) := H
    have A30 := Aside0.mk A300
    clear A300
    replace H := Option.bind_eq_some_iff.mp H
    obtain ⟨⟨t715, t716, t717⟩, A310, H⟩ := H
    replace H : ((awardingbodyref01_Size.f a0_1).bind fun t719 => ((awardingbodyref01_Size.f a1_1).bind fun t720 => ((awardingbodyref01_Product.f t719 t720).bind fun bt721 => ((awardingbodyref01_Reduce.f kj2 t715 t716 t717 bt721.1 bt721.2).bind fun bt723 => (some (bt723.1, bt723.2.1, bt723.2.2)))))) = some (r1, r2, r3) := H
    have A31 := Aside0.mk A310
    clear A310
    replace H := Option.bind_eq_some_iff.mp H
    obtain ⟨t719, A320, H⟩ := H
    replace H : ((awardingbodyref01_Size.f a1_1).bind fun t720 => ((awardingbodyref01_Product.f t719 t720).bind fun bt721 => ((awardingbodyref01_Reduce.f kj2 t715 t716 t717 bt721.1 bt721.2).bind fun bt723 => (some (bt723.1, bt723.2.1, bt723.2.2))))) = some (r1, r2, r3) := H
    have A32 := Aside0.mk A320
    clear A320
    replace H := Option.bind_eq_some_iff.mp H
    obtain ⟨t720, A330, H⟩ := H
    replace H : ((awardingbodyref01_Product.f t719 t720).bind fun bt721 => ((awardingbodyref01_Reduce.f kj2 t715 t716 t717 bt721.1 bt721.2).bind fun bt723 => (some (bt723.1, bt723.2.1, bt723.2.2)))) = some (r1, r2, r3) := H
    have A33 := Aside0.mk A330
    clear A330
    replace H := Option.bind_eq_some_iff.mp H
    obtain ⟨⟨t721, t722⟩, A340, H⟩ := H
    replace H : ((awardingbodyref01_Reduce.f kj2 t715 t716 t717 t721 t722).bind fun bt723 => (some (bt723.1, bt723.2.1, bt723.2.2))) = some (r1, r2, r3) := H
    have A34 := Aside0.mk A340
    clear A340
    replace H := Option.bind_eq_some_iff.mp H
    obtain ⟨⟨t723, t724, t725⟩, A350, H⟩ := H
    replace H : (some (t723, t724, t725)) = some (r1, r2, r3) := H
    have A35 := Aside0.mk A350
    clear A350
    simp only [Option.some.injEq, Prod.mk.injEq] at H
    obtain ⟨rfl, rfl, rfl⟩ := H
    try go_wp2
    have n0_ := Aside0.mk (blk_drew BK702.out)
    have n1_ := Aside0.mk (blk_drew BK703.out)
    have n2_ := Aside0.mk (blk_drew BK704.out)
    have n3_ := Aside0.mk (below_drew1 HB.out)
    clear BK702
    clear BK703
    clear BK704
    clear HB
    have BK702 := n0_
    have BK703 := n1_
    have BK704 := n2_
    have HB := n3_
    clear n0_ n1_ n2_ n3_
    refine start_ (n := 27) (S := fun w' => w'.cell? ⟨gb702, 0, none⟩ = some (.int .i64 a0_0) ∧ w'.cell? ⟨gb702, 1, none⟩ = some (.int .i64 a0_1) ∧ w'.cell? ⟨gb703, 0, none⟩ = some (.int .i64 a1_0) ∧ w'.cell? ⟨gb703, 1, none⟩ = some (.int .i64 a1_1)) (ds := []) #[false, false, false, false, false, false, false, false, false, false, false, false, false, false, false, false, false, false, false, false, false, false, false, false, false, false, false] (by kernel_rfl) rfl rfl ⟨(blk_cell BK702.out 0).trans rfl, (blk_cell BK702.out 1).trans rfl, (blk_cell BK703.out 0).trans rfl, (blk_cell BK703.out 1).trans rfl⟩ (fun hHeld => ?_); refine with_tabW awardingbodyref01_Add.tab3 awardingbodyref01_Add.bits3 (fun HT_ HW_ => ?_)
    generalize wc.drew = w36 at BK702 BK703 BK704 HB hHeld ⊢
    refine pure_ (i := 0) (N := some 18) (v := ?_) (a' := ?_) #[true, false, false, false, false, false, false, false, false, false, false, false, false, false, false, false, false, false, false, false, false, false, false, false, false, false, false] rfl rfl (any_of HT_.out (by kernel_rfl)) (fun _ _ _ h => h) (Or.inl ⟨by rfl, ?_⟩) ?_ ?_
    rotate_left
    ·intro w'
     go_simp
     with_reducible rfl
    rotate_left
    ·simp only [Act.put, List.setIfInBounds_toArray, List.set_cons_zero, List.set_cons_succ, i64_w, i32_w]
     rfl
    refine pure_ (i := 3) (N := some 21) (v := ?_) (a' := ?_) #[true, false, false, true, false, false, false, false, false, false, false, false, false, false, false, false, false, false, false, false, false, false, false, false, false, false, false] rfl rfl (any_of HT_.out (by kernel_rfl)) (fun _ _ _ h => h) (Or.inl ⟨by rfl, ?_⟩) ?_ ?_
    rotate_left
    ·intro w'
     go_simp
     with_reducible rfl
    rotate_left
    ·simp only [Act.put, List.setIfInBounds_toArray, List.set_cons_zero, List.set_cons_succ, i64_w, i32_w]
     rfl
    refine pure_ (i := 6) (N := some 24) (v := ?_) (a' := ?_) #[true, false, false, true, false, false, true, false, false, false, false, false, false, false, false, false, false, false, false, false, false, false, false, false, false, false, false] rfl rfl (any_of HT_.out (by kernel_rfl)) (fun _ _ _ h => h) (Or.inl ⟨by rfl, ?_⟩) ?_ ?_
    rotate_left
    ·intro w'
     go_simp
     with_reducible rfl
    rotate_left
    ·simp only [Act.put, List.setIfInBounds_toArray, List.set_cons_zero, List.set_cons_succ, i64_w, i32_w]
     rfl
    refine pure_ (i := 10) (N := some 28) (v := ?_) (a' := ?_) #[true, false, false, true, false, false, true, false, false, false, true, false, false, false, false, false, false, false, false, false, false, false, false, false, false, false, false] rfl rfl (any_of HT_.out (by kernel_rfl)) (fun _ _ _ h => h) (Or.inl ⟨by rfl, ?_⟩) ?_ ?_
    rotate_left
    ·intro w'
     go_simp
     with_reducible rfl
    rotate_left
    ·simp only [Act.put, List.setIfInBounds_toArray, List.set_cons_zero, List.set_cons_succ, i64_w, i32_w]
     rfl
    refine pure_ (i := 13) (N := some 31) (v := ?_) (a' := ?_) #[true, false, false, true, false, false, true, false, false, false, true, false, false, true, false, false, false, false, false, false, false, false, false, false, false, false, false] rfl rfl (any_of HT_.out (by kernel_rfl)) (fun _ _ _ h => h) (Or.inl ⟨by rfl, ?_⟩) ?_ ?_
    rotate_left
    ·intro w'
     go_simp
     with_reducible rfl
    rotate_left
    ·simp only [Act.put, List.setIfInBounds_toArray, List.set_cons_zero, List.set_cons_succ, i64_w, i32_w]
     rfl
    refine pure_ (i := 16) (N := some 34) (v := ?_) (a' := ?_) #[true, false, false, true, false, false, true, false, false, false, true, false, false, true, false, false, true, false, false, false, false, false, false, false, false, false, false] rfl rfl (any_of HT_.out (by kernel_rfl)) (fun _ _ _ h => h) (Or.inl ⟨by rfl, ?_⟩) ?_ ?_
    rotate_left
    ·intro w'
     go_simp
     with_reducible rfl
    rotate_left
    ·simp only [Act.put, List.setIfInBounds_toArray, List.set_cons_zero, List.set_cons_succ, i64_w, i32_w]
     rfl
    refine take_ (i := 1) (N := some 19) (v := ?_) (a' := ?_) #[true, true, false, true, false, false, true, false, false, false, true, false, false, true, false, false, true, false, false, false, false, false, false, false, false, false, false] rfl rfl (take_ofW HT_.out HW_.out (by kernel_rfl)) (fun _ _ _ h => h) (Or.inl ⟨by rfl, ?_⟩) hHeld ?_ ?_
    rotate_left
    ·rintro w' ⟨s0, s1, s2, s3⟩
     go_simp
     with_reducible rfl
    rotate_left
    ·simp only [Act.put, List.setIfInBounds_toArray, List.set_cons_zero, List.set_cons_succ, i64_w, i32_w]
     rfl
    refine pure_ (i := 2) (N := some 20) (v := ?_) (a' := ?_) #[true, true, true, true, false, false, true, false, false, false, true, false, false, true, false, false, true, false, false, false, false, false, false, false, false, false, false] rfl rfl (any_of HT_.out (by kernel_rfl)) (fun _ _ _ h => h) (Or.inl ⟨by rfl, ?_⟩) ?_ ?_
    rotate_left
    ·intro w'
     go_simp
     with_reducible rfl
    rotate_left
    ·simp only [Act.put, List.setIfInBounds_toArray, List.set_cons_zero, List.set_cons_succ, i64_w, i32_w]
     rfl
    refine take_ (i := 4) (N := some 22) (v := ?_) (a' := ?_) #[true, true, true, true, true, false, true, false, false, false, true, false, false, true, false, false, true, false, false, false, false, false, false, false, false, false, false] rfl rfl (take_ofW HT_.out HW_.out (by kernel_rfl)) (fun _ _ _ h => h) (Or.inl ⟨by rfl, ?_⟩) hHeld ?_ ?_
    rotate_left
    ·rintro w' ⟨s0, s1, s2, s3⟩
     go_simp
     with_reducible rfl
    rotate_left
    ·simp only [Act.put, List.setIfInBounds_toArray, List.set_cons_zero, List.set_cons_succ, i64_w, i32_w]
     rfl
    refine take_ (i := 7) (N := some 25) (v := ?_) (a' := ?_) #[true, true, true, true, true, false, true, true, false, false, true, false, false, true, false, false, true, false, false, false, false, false, false, false, false, false, false] rfl rfl (take_ofW HT_.out HW_.out (by kernel_rfl)) (fun _ _ _ h => h) (Or.inl ⟨by rfl, ?_⟩) hHeld ?_ ?_
    rotate_left
    ·rintro w' ⟨s0, s1, s2, s3⟩
     go_simp
     with_reducible rfl
    rotate_left
    ·simp only [Act.put, List.setIfInBounds_toArray, List.set_cons_zero, List.set_cons_succ, i64_w, i32_w]
     rfl
    refine take_ (i := 11) (N := some 29) (v := ?_) (a' := ?_) #[true, true, true, true, true, false, true, true, false, false, true, true, false, true, false, false, true, false, false, false, false, false, false, false, false, false, false] rfl rfl (take_ofW HT_.out HW_.out (by kernel_rfl)) (fun _ _ _ h => h) (Or.inl ⟨by rfl, ?_⟩) hHeld ?_ ?_
    rotate_left
    ·rintro w' ⟨s0, s1, s2, s3⟩
     go_simp
     with_reducible rfl
    rotate_left
    ·simp only [Act.put, List.setIfInBounds_toArray, List.set_cons_zero, List.set_cons_succ, i64_w, i32_w]
     rfl
    refine pure_ (i := 12) (N := some 30) (v := ?_) (a' := ?_) #[true, true, true, true, true, false, true, true, false, false, true, true, true, true, false, false, true, false, false, false, false, false, false, false, false, false, false] rfl rfl (any_of HT_.out (by kernel_rfl)) (fun _ _ _ h => h) (Or.inl ⟨by rfl, ?_⟩) ?_ ?_
    rotate_left
    ·intro w'
     go_simp
     with_reducible rfl
    rotate_left
    ·simp only [Act.put, List.setIfInBounds_toArray, List.set_cons_zero, List.set_cons_succ, i64_w, i32_w]
     rfl
    refine take_ (i := 14) (N := some 32) (v := ?_) (a' := ?_) #[true, true, true, true, true, false, true, true, false, false, true, true, true, true, true, false, true, false, false, false, false, false, false, false, false, false, false] rfl rfl (take_ofW HT_.out HW_.out (by kernel_rfl)) (fun _ _ _ h => h) (Or.inl ⟨by rfl, ?_⟩) hHeld ?_ ?_
    rotate_left
    ·rintro w' ⟨s0, s1, s2, s3⟩
     go_simp
     with_reducible rfl
    rotate_left
    ·simp only [Act.put, List.setIfInBounds_toArray, List.set_cons_zero, List.set_cons_succ, i64_w, i32_w]
     rfl
    refine take_ (i := 17) (N := some 35) (v := ?_) (a' := ?_) #[true, true, true, true, true, false, true, true, false, false, true, true, true, true, true, false, true, true, false, false, false, false, false, false, false, false, false] rfl rfl (take_ofW HT_.out HW_.out (by kernel_rfl)) (fun _ _ _ h => h) (Or.inl ⟨by rfl, ?_⟩) hHeld ?_ ?_
    rotate_left
    ·rintro w' ⟨s0, s1, s2, s3⟩
     go_simp
     with_reducible rfl
    rotate_left
    ·simp only [Act.put, List.setIfInBounds_toArray, List.set_cons_zero, List.set_cons_succ, i64_w, i32_w]
     rfl
    refine join_ (σ := Nat) 2 #[true, true, true, true, true, true, true, true, true, true, true, true, true, true, true, true, true, true, true, true, true, true, true, true, true, false, false] (fun s_ => [(23, .int .u64 t707), (26, .int .u64 t708), (27, .agg #[.int .u64 t709, .int .u64 t710]), (33, .int .u64 t711), (36, .int .u64 t712), (37, .agg #[.int .u64 t713, .int .u64 t714]), (38, .tuple #[.bool t715, .agg #[.int .u64 t716, .int .u64 t717]]), (7, .pointer (some ⟨s_, 0, none⟩)), (17, .tuple #[.bool t715, .agg #[.int .u64 t716, .int .u64 t717]]), (39, .bool t715), (40, .agg #[.int .u64 t716, .int .u64 t717])]) (fun s_ w' => (w'.cell? ⟨gb702, 0, none⟩ = some (.int .i64 a0_0) ∧ w'.cell? ⟨gb702, 1, none⟩ = some (.int .i64 a0_1) ∧ w'.cell? ⟨gb703, 0, none⟩ = some (.int .i64 a1_0) ∧ w'.cell? ⟨gb703, 1, none⟩ = some (.int .i64 a1_1)) ∧ (w'.heap[gb702]? = some (.cells #[.int .i64 a0_0, .int .i64 a0_1] 35 (0, 0))) ∧ (w'.heap[gb703]? = some (.cells #[.int .i64 a1_0, .int .i64 a1_1] 35 (0, 0))) ∧ (w'.heap[gb704]? = some (.cells #[.int .i64 0, .int .i64 0] 35 (0, 0))) ∧ (w'.heap[s_]? = some (.cells #[.int .u64 0, .int .u64 0] 61 (0, 0))) ∧ (w.heap.size ≤ s_) ∧ (w.heap.size ≤ s_) ∧ (gb702 ≠ s_) ∧ (s_ ≠ gb702) ∧ (gb703 ≠ s_) ∧ (s_ ≠ gb703) ∧ (gb704 ≠ s_) ∧ (s_ ≠ gb704) ∧ (Below w.heap.size w w')) ?_ ?_
    rotate_left
    ·intro hJ5_8_9_15_18_19_20_24
     refine join_ (σ := Unit) 3 #[true, true, true, true, true, true, true, true, true, true, true, true, true, true, true, true, true, true, true, true, true, true, true, true, false, false, false] (fun s_ => [(23, .int .u64 t707), (26, .int .u64 t708), (27, .agg #[.int .u64 t709, .int .u64 t710]), (33, .int .u64 t711), (36, .int .u64 t712), (37, .agg #[.int .u64 t713, .int .u64 t714]), (38, .tuple #[.bool t715, .agg #[.int .u64 t716, .int .u64 t717]]), (17, .tuple #[.bool t715, .agg #[.int .u64 t716, .int .u64 t717]]), (39, .bool t715), (40, .agg #[.int .u64 t716, .int .u64 t717])]) (fun s_ w' => (w'.cell? ⟨gb702, 0, none⟩ = some (.int .i64 a0_0) ∧ w'.cell? ⟨gb702, 1, none⟩ = some (.int .i64 a0_1) ∧ w'.cell? ⟨gb703, 0, none⟩ = some (.int .i64 a1_0) ∧ w'.cell? ⟨gb703, 1, none⟩ = some (.int .i64 a1_1)) ∧ (w'.heap[gb702]? = some (.cells #[.int .i64 a0_0, .int .i64 a0_1] 35 (0, 0))) ∧ (w'.heap[gb703]? = some (.cells #[.int .i64 a1_0, .int .i64 a1_1] 35 (0, 0))) ∧ (w'.heap[gb704]? = some (.cells #[.int .i64 0, .int .i64 0] 35 (0, 0))) ∧ (Below w.heap.size w w')) ?_ ?_
     rotate_left
     ·intro hJ5_8_9_15_18_19_20
      refine join_ (σ := Nat) 6 #[true, true, true, true, true, true, true, true, true, true, true, true, true, true, true, true, true, true, true, true, false, false, false, false, true, false, false] (fun s_ => [(23, .int .u64 t707), (26, .int .u64 t708), (27, .agg #[.int .u64 t709, .int .u64 t710]), (33, .int .u64 t711), (36, .int .u64 t712), (37, .agg #[.int .u64 t713, .int .u64 t714]), (7, .pointer (some ⟨s_, 0, none⟩))]) (fun s_ w' => (w'.cell? ⟨gb702, 0, none⟩ = some (.int .i64 a0_0) ∧ w'.cell? ⟨gb702, 1, none⟩ = some (.int .i64 a0_1) ∧ w'.cell? ⟨gb703, 0, none⟩ = some (.int .i64 a1_0) ∧ w'.cell? ⟨gb703, 1, none⟩ = some (.int .i64 a1_1)) ∧ (w'.heap[gb702]? = some (.cells #[.int .i64 a0_0, .int .i64 a0_1] 35 (0, 0))) ∧ (w'.heap[gb703]? = some (.cells #[.int .i64 a1_0, .int .i64 a1_1] 35 (0, 0))) ∧ (w'.heap[gb704]? = some (.cells #[.int .i64 0, .int .i64 0] 35 (0, 0))) ∧ (w'.heap[s_]? = some (.cells #[.int .u64 0, .int .u64 0] 61 (0, 0))) ∧ (w.heap.size ≤ s_) ∧ (w.heap.size ≤ s_) ∧ (gb702 ≠ s_) ∧ (s_ ≠ gb702) ∧ (gb703 ≠ s_) ∧ (s_ ≠ gb703) ∧ (gb704 ≠ s_) ∧ (s_ ≠ gb704) ∧ (Below w.heap.size w w')) ?_ ?_
      rotate_left
      ·intro hJ5_8_9_15_18_19_24
       refine join_ (σ := Unit) 7 #[true, true, true, true, true, true, true, true, true, true, true, true, true, true, true, true, true, true, true, true, false, false, false, false, false, false, false] (fun s_ => [(23, .int .u64 t707), (26, .int .u64 t708), (27, .agg #[.int .u64 t709, .int .u64 t710]), (33, .int .u64 t711), (36, .int .u64 t712), (37, .agg #[.int .u64 t713, .int .u64 t714])]) (fun s_ w' => (w'.cell? ⟨gb702, 0, none⟩ = some (.int .i64 a0_0) ∧ w'.cell? ⟨gb702, 1, none⟩ = some (.int .i64 a0_1) ∧ w'.cell? ⟨gb703, 0, none⟩ = some (.int .i64 a1_0) ∧ w'.cell? ⟨gb703, 1, none⟩ = some (.int .i64 a1_1)) ∧ (w'.heap[gb702]? = some (.cells #[.int .i64 a0_0, .int .i64 a0_1] 35 (0, 0))) ∧ (w'.heap[gb703]? = some (.cells #[.int .i64 a1_0, .int .i64 a1_1] 35 (0, 0))) ∧ (w'.heap[gb704]? = some (.cells #[.int .i64 0, .int .i64 0] 35 (0, 0))) ∧ (Below w.heap.size w w')) ?_ ?_
       rotate_left
       ·intro hJ5_8_9_15_18_19
        refine join_ (σ := Nat) 7 #[true, true, true, true, true, true, true, true, true, true, true, true, true, true, true, true, true, true, true, false, false, false, false, false, true, false, false] (fun s_ => [(23, .int .u64 t707), (26, .int .u64 t708), (27, .agg #[.int .u64 t709, .int .u64 t710]), (33, .int .u64 t711), (36, .int .u64 t712), (7, .pointer (some ⟨s_, 0, none⟩))]) (fun s_ w' => (w'.cell? ⟨gb702, 0, none⟩ = some (.int .i64 a0_0) ∧ w'.cell? ⟨gb702, 1, none⟩ = some (.int .i64 a0_1) ∧ w'.cell? ⟨gb703, 0, none⟩ = some (.int .i64 a1_0) ∧ w'.cell? ⟨gb703, 1, none⟩ = some (.int .i64 a1_1)) ∧ (w'.heap[gb702]? = some (.cells #[.int .i64 a0_0, .int .i64 a0_1] 35 (0, 0))) ∧ (w'.heap[gb703]? = some (.cells #[.int .i64 a1_0, .int .i64 a1_1] 35 (0, 0))) ∧ (w'.heap[gb704]? = some (.cells #[.int .i64 0, .int .i64 0] 35 (0, 0))) ∧ (w'.heap[s_]? = some (.cells #[.int .u64 0, .int .u64 0] 61 (0, 0))) ∧ (w.heap.size ≤ s_) ∧ (w.heap.size ≤ s_) ∧ (gb702 ≠ s_) ∧ (s_ ≠ gb702) ∧ (gb703 ≠ s_) ∧ (s_ ≠ gb703) ∧ (gb704 ≠ s_) ∧ (s_ ≠ gb704) ∧ (Below w.heap.size w w')) ?_ ?_
        rotate_left
        ·intro hJ5_8_9_15_18_24
         refine join_ (σ := Unit) 8 #[true, true, true, true, true, true, true, true, true, true, true, true, true, true, true, true, true, true, true, false, false, false, false, false, false, false, false] (fun s_ => [(23, .int .u64 t707), (26, .int .u64 t708), (27, .agg #[.int .u64 t709, .int .u64 t710]), (33, .int .u64 t711), (36, .int .u64 t712)]) (fun s_ w' => (w'.cell? ⟨gb702, 0, none⟩ = some (.int .i64 a0_0) ∧ w'.cell? ⟨gb702, 1, none⟩ = some (.int .i64 a0_1) ∧ w'.cell? ⟨gb703, 0, none⟩ = some (.int .i64 a1_0) ∧ w'.cell? ⟨gb703, 1, none⟩ = some (.int .i64 a1_1)) ∧ (w'.heap[gb702]? = some (.cells #[.int .i64 a0_0, .int .i64 a0_1] 35 (0, 0))) ∧ (w'.heap[gb703]? = some (.cells #[.int .i64 a1_0, .int .i64 a1_1] 35 (0, 0))) ∧ (w'.heap[gb704]? = some (.cells #[.int .i64 0, .int .i64 0] 35 (0, 0))) ∧ (Below w.heap.size w w')) ?_ ?_
         rotate_left
         ·intro hJ5_8_9_15_18
          refine join_ (σ := Nat) 8 #[true, true, true, true, true, true, true, true, true, true, true, true, true, true, true, true, true, true, false, false, false, false, false, false, true, false, false] (fun s_ => [(23, .int .u64 t707), (26, .int .u64 t708), (27, .agg #[.int .u64 t709, .int .u64 t710]), (33, .int .u64 t711), (7, .pointer (some ⟨s_, 0, none⟩))]) (fun s_ w' => (w'.cell? ⟨gb702, 0, none⟩ = some (.int .i64 a0_0) ∧ w'.cell? ⟨gb702, 1, none⟩ = some (.int .i64 a0_1) ∧ w'.cell? ⟨gb703, 0, none⟩ = some (.int .i64 a1_0) ∧ w'.cell? ⟨gb703, 1, none⟩ = some (.int .i64 a1_1)) ∧ (w'.heap[gb702]? = some (.cells #[.int .i64 a0_0, .int .i64 a0_1] 35 (0, 0))) ∧ (w'.heap[gb703]? = some (.cells #[.int .i64 a1_0, .int .i64 a1_1] 35 (0, 0))) ∧ (w'.heap[gb704]? = some (.cells #[.int .i64 0, .int .i64 0] 35 (0, 0))) ∧ (w'.heap[s_]? = some (.cells #[.int .u64 0, .int .u64 0] 61 (0, 0))) ∧ (w.heap.size ≤ s_) ∧ (w.heap.size ≤ s_) ∧ (gb702 ≠ s_) ∧ (s_ ≠ gb702) ∧ (gb703 ≠ s_) ∧ (s_ ≠ gb703) ∧ (gb704 ≠ s_) ∧ (s_ ≠ gb704) ∧ (Below w.heap.size w w')) ?_ ?_
          rotate_left
          ·intro hJ5_8_9_15_24
           refine join_ (σ := Unit) 9 #[true, true, true, true, true, true, true, true, true, true, true, true, true, true, true, true, true, true, false, false, false, false, false, false, false, false, false] (fun s_ => [(23, .int .u64 t707), (26, .int .u64 t708), (27, .agg #[.int .u64 t709, .int .u64 t710]), (33, .int .u64 t711)]) (fun s_ w' => (w'.cell? ⟨gb702, 0, none⟩ = some (.int .i64 a0_0) ∧ w'.cell? ⟨gb702, 1, none⟩ = some (.int .i64 a0_1) ∧ w'.cell? ⟨gb703, 0, none⟩ = some (.int .i64 a1_0) ∧ w'.cell? ⟨gb703, 1, none⟩ = some (.int .i64 a1_1)) ∧ (w'.heap[gb702]? = some (.cells #[.int .i64 a0_0, .int .i64 a0_1] 35 (0, 0))) ∧ (w'.heap[gb703]? = some (.cells #[.int .i64 a1_0, .int .i64 a1_1] 35 (0, 0))) ∧ (w'.heap[gb704]? = some (.cells #[.int .i64 0, .int .i64 0] 35 (0, 0))) ∧ (Below w.heap.size w w')) ?_ ?_
           rotate_left
           ·intro hJ5_8_9_15
            refine join_ (σ := Nat) 9 #[true, true, true, true, true, true, true, true, true, true, true, true, true, true, true, false, true, true, false, false, false, false, false, false, true, false, false] (fun s_ => [(23, .int .u64 t707), (26, .int .u64 t708), (27, .agg #[.int .u64 t709, .int .u64 t710]), (7, .pointer (some ⟨s_, 0, none⟩))]) (fun s_ w' => (w'.cell? ⟨gb702, 0, none⟩ = some (.int .i64 a0_0) ∧ w'.cell? ⟨gb702, 1, none⟩ = some (.int .i64 a0_1) ∧ w'.cell? ⟨gb703, 0, none⟩ = some (.int .i64 a1_0) ∧ w'.cell? ⟨gb703, 1, none⟩ = some (.int .i64 a1_1)) ∧ (w'.heap[gb702]? = some (.cells #[.int .i64 a0_0, .int .i64 a0_1] 35 (0, 0))) ∧ (w'.heap[gb703]? = some (.cells #[.int .i64 a1_0, .int .i64 a1_1] 35 (0, 0))) ∧ (w'.heap[gb704]? = some (.cells #[.int .i64 0, .int .i64 0] 35 (0, 0))) ∧ (w'.heap[s_]? = some (.cells #[.int .u64 0, .int .u64 0] 61 (0, 0))) ∧ (w.heap.size ≤ s_) ∧ (w.heap.size ≤ s_) ∧ (gb702 ≠ s_) ∧ (s_ ≠ gb702) ∧ (gb703 ≠ s_) ∧ (s_ ≠ gb703) ∧ (gb704 ≠ s_) ∧ (s_ ≠ gb704) ∧ (Below w.heap.size w w')) ?_ ?_
            rotate_left
            ·intro hJ5_8_9_24
             refine join_ (σ := Unit) 10 #[true, true, true, true, true, true, true, true, true, true, true, true, true, true, true, false, true, true, false, false, false, false, false, false, false, false, false] (fun s_ => [(23, .int .u64 t707), (26, .int .u64 t708), (27, .agg #[.int .u64 t709, .int .u64 t710])]) (fun s_ w' => (w'.cell? ⟨gb702, 0, none⟩ = some (.int .i64 a0_0) ∧ w'.cell? ⟨gb702, 1, none⟩ = some (.int .i64 a0_1) ∧ w'.cell? ⟨gb703, 0, none⟩ = some (.int .i64 a1_0) ∧ w'.cell? ⟨gb703, 1, none⟩ = some (.int .i64 a1_1)) ∧ (w'.heap[gb702]? = some (.cells #[.int .i64 a0_0, .int .i64 a0_1] 35 (0, 0))) ∧ (w'.heap[gb703]? = some (.cells #[.int .i64 a1_0, .int .i64 a1_1] 35 (0, 0))) ∧ (w'.heap[gb704]? = some (.cells #[.int .i64 0, .int .i64 0] 35 (0, 0))) ∧ (Below w.heap.size w w')) ?_ ?_
             rotate_left
             ·intro hJ5_8_9
              refine join_ (σ := Nat) 10 #[true, true, true, true, true, true, true, true, true, false, true, true, true, true, true, false, true, true, false, false, false, false, false, false, true, false, false] (fun s_ => [(23, .int .u64 t707), (26, .int .u64 t708), (7, .pointer (some ⟨s_, 0, none⟩))]) (fun s_ w' => (w'.cell? ⟨gb702, 0, none⟩ = some (.int .i64 a0_0) ∧ w'.cell? ⟨gb702, 1, none⟩ = some (.int .i64 a0_1) ∧ w'.cell? ⟨gb703, 0, none⟩ = some (.int .i64 a1_0) ∧ w'.cell? ⟨gb703, 1, none⟩ = some (.int .i64 a1_1)) ∧ (w'.heap[gb702]? = some (.cells #[.int .i64 a0_0, .int .i64 a0_1] 35 (0, 0))) ∧ (w'.heap[gb703]? = some (.cells #[.int .i64 a1_0, .int .i64 a1_1] 35 (0, 0))) ∧ (w'.heap[gb704]? = some (.cells #[.int .i64 0, .int .i64 0] 35 (0, 0))) ∧ (w'.heap[s_]? = some (.cells #[.int .u64 0, .int .u64 0] 61 (0, 0))) ∧ (w.heap.size ≤ s_) ∧ (w.heap.size ≤ s_) ∧ (gb702 ≠ s_) ∧ (s_ ≠ gb702) ∧ (gb703 ≠ s_) ∧ (s_ ≠ gb703) ∧ (gb704 ≠ s_) ∧ (s_ ≠ gb704) ∧ (Below w.heap.size w w')) ?_ ?_
              rotate_left
              ·intro hJ5_8_24
               refine join_ (σ := Unit) 11 #[true, true, true, true, true, true, true, true, true, false, true, true, true, true, true, false, true, true, false, false, false, false, false, false, false, false, false] (fun s_ => [(23, .int .u64 t707), (26, .int .u64 t708)]) (fun s_ w' => (w'.cell? ⟨gb702, 0, none⟩ = some (.int .i64 a0_0) ∧ w'.cell? ⟨gb702, 1, none⟩ = some (.int .i64 a0_1) ∧ w'.cell? ⟨gb703, 0, none⟩ = some (.int .i64 a1_0) ∧ w'.cell? ⟨gb703, 1, none⟩ = some (.int .i64 a1_1)) ∧ (w'.heap[gb702]? = some (.cells #[.int .i64 a0_0, .int .i64 a0_1] 35 (0, 0))) ∧ (w'.heap[gb703]? = some (.cells #[.int .i64 a1_0, .int .i64 a1_1] 35 (0, 0))) ∧ (w'.heap[gb704]? = some (.cells #[.int .i64 0, .int .i64 0] 35 (0, 0))) ∧ (Below w.heap.size w w')) ?_ ?_
               rotate_left
               ·intro hJ5_8
                refine join_ (σ := Nat) 11 #[true, true, true, true, true, true, true, true, false, false, true, true, true, true, true, false, true, true, false, false, false, false, false, false, true, false, false] (fun s_ => [(23, .int .u64 t707), (7, .pointer (some ⟨s_, 0, none⟩))]) (fun s_ w' => (w'.cell? ⟨gb702, 0, none⟩ = some (.int .i64 a0_0) ∧ w'.cell? ⟨gb702, 1, none⟩ = some (.int .i64 a0_1) ∧ w'.cell? ⟨gb703, 0, none⟩ = some (.int .i64 a1_0) ∧ w'.cell? ⟨gb703, 1, none⟩ = some (.int .i64 a1_1)) ∧ (w'.heap[gb702]? = some (.cells #[.int .i64 a0_0, .int .i64 a0_1] 35 (0, 0))) ∧ (w'.heap[gb703]? = some (.cells #[.int .i64 a1_0, .int .i64 a1_1] 35 (0, 0))) ∧ (w'.heap[gb704]? = some (.cells #[.int .i64 0, .int .i64 0] 35 (0, 0))) ∧ (w'.heap[s_]? = some (.cells #[.int .u64 0, .int .u64 0] 61 (0, 0))) ∧ (w.heap.size ≤ s_) ∧ (w.heap.size ≤ s_) ∧ (gb702 ≠ s_) ∧ (s_ ≠ gb702) ∧ (gb703 ≠ s_) ∧ (s_ ≠ gb703) ∧ (gb704 ≠ s_) ∧ (s_ ≠ gb704) ∧ (Below w.heap.size w w')) ?_ ?_
                rotate_left
                ·intro hJ5_24
                 refine join_ (σ := Unit) 12 #[true, true, true, true, true, true, true, true, false, false, true, true, true, true, true, false, true, true, false, false, false, false, false, false, false, false, false] (fun s_ => [(23, .int .u64 t707)]) (fun s_ w' => (w'.cell? ⟨gb702, 0, none⟩ = some (.int .i64 a0_0) ∧ w'.cell? ⟨gb702, 1, none⟩ = some (.int .i64 a0_1) ∧ w'.cell? ⟨gb703, 0, none⟩ = some (.int .i64 a1_0) ∧ w'.cell? ⟨gb703, 1, none⟩ = some (.int .i64 a1_1)) ∧ (w'.heap[gb702]? = some (.cells #[.int .i64 a0_0, .int .i64 a0_1] 35 (0, 0))) ∧ (w'.heap[gb703]? = some (.cells #[.int .i64 a1_0, .int .i64 a1_1] 35 (0, 0))) ∧ (w'.heap[gb704]? = some (.cells #[.int .i64 0, .int .i64 0] 35 (0, 0))) ∧ (Below w.heap.size w w')) ?_ ?_
                 rotate_left
                 ·intro hJ5
                  refine join_ (σ := Nat) 12 #[true, true, true, true, true, false, true, true, false, false, true, true, true, true, true, false, true, true, false, false, false, false, false, false, true, false, false] (fun s_ => [(7, .pointer (some ⟨s_, 0, none⟩))]) (fun s_ w' => (w'.cell? ⟨gb702, 0, none⟩ = some (.int .i64 a0_0) ∧ w'.cell? ⟨gb702, 1, none⟩ = some (.int .i64 a0_1) ∧ w'.cell? ⟨gb703, 0, none⟩ = some (.int .i64 a1_0) ∧ w'.cell? ⟨gb703, 1, none⟩ = some (.int .i64 a1_1)) ∧ (w'.heap[gb702]? = some (.cells #[.int .i64 a0_0, .int .i64 a0_1] 35 (0, 0))) ∧ (w'.heap[gb703]? = some (.cells #[.int .i64 a1_0, .int .i64 a1_1] 35 (0, 0))) ∧ (w'.heap[gb704]? = some (.cells #[.int .i64 0, .int .i64 0] 35 (0, 0))) ∧ (w'.heap[s_]? = some (.cells #[.int .u64 0, .int .u64 0] 61 (0, 0))) ∧ (w.heap.size ≤ s_) ∧ (w.heap.size ≤ s_) ∧ (gb702 ≠ s_) ∧ (s_ ≠ gb702) ∧ (gb703 ≠ s_) ∧ (s_ ≠ gb703) ∧ (gb704 ≠ s_) ∧ (s_ ≠ gb704) ∧ (Below w.heap.size w w')) ?_ ?_
                  rotate_left
                  ·intro hJ24
                   refine two_ (i := 5) (j := 24) (Ni := some 23) (Nj := some 7) #[true, true, true, true, true, true, true, true, false, false, true, true, true, true, true, false, true, true, false, false, false, false, false, false, false, false, false] #[true, true, true, true, true, false, true, true, false, false, true, true, true, true, true, false, true, true, false, false, false, false, false, false, true, false, false] rfl rfl rfl rfl (two_of HT_.out (by kernel_rfl)) (by decide) (by decide) (fun K hK => ?_) (fun K hK => ?_)
                   ·skip
                    refine goes_ Try.func51 (by kernel_rfl) rfl #[.int .i64 a0_0] (by rfl) rfl rfl (by (try simp only [List.map_toArray, List.map_cons, List.map_nil]); first | done | rfl | (simp only [List.length_drop, List.length_take]; rfl)) ?_
                    with_reducible refine (awardingbodyref01_Size.calls a0_0 t707 _ A25.out).mono ?_
                    rintro e w' ⟨rfl, ⟨nd, rfl⟩⟩
                    refine ⟨_, rfl, ?_⟩
                    refine hK.out _ _ ⟨(blk_cell BK702.out 0).trans rfl, (blk_cell BK702.out 1).trans rfl, (blk_cell BK703.out 0).trans rfl, (blk_cell BK703.out 1).trans rfl⟩ (fun hHeld => ?_)
                    clear hK K
                    refine norm_ (a' := ?_) ?_ ?_
                    rotate_left
                    ·show Act.put _ (some 23) _ = _
                     simp only [Act.put, List.setIfInBounds_toArray, List.set_cons_zero, List.set_cons_succ, i64_w, i32_w]
                     rfl
                    exact norm_ (by first | (simp only [putAll, Act.put, List.setIfInBounds_toArray, List.set_cons_zero, List.set_cons_succ]; done) | (simp only [putAll, Act.put, List.setIfInBounds_toArray, List.set_cons_zero, List.set_cons_succ]; rfl)) (hJ5 () _ ⟨hHeld, (bq BK702), (bq BK703), (bq BK704), (bw HB)⟩)
                   ·skip
                    refine box_step ?hg (N := 7) ?hd (cs := #[.int .u64 0, .int .u64 0]) (t := 61) ?hr ?_; (case hd => rfl); (case hg => rfl); (case hr => first | (go_simp; done) | (go_simp; rfl))
                    intro gb718 hg w37 hbox hb
                    have n0_ := kb BK702 hb
                    have n1_ := kb BK703 hb
                    have n2_ := kb BK704 hb
                    have n3_ := wb HB hb
                    have n4_ := Aside0.mk (hbox)
                    have n5_ := gs HB hg
                    have n6_ := gs HB hg
                    have n7_ := nl BK702 hg
                    have n8_ := nr BK702 hg
                    have n9_ := nl BK703 hg
                    have n10_ := nr BK703 hg
                    have n11_ := nl BK704 hg
                    have n12_ := nr BK704 hg
                    clear BK702
                    clear BK703
                    clear BK704
                    clear HB
                    have BK702 := n0_
                    have BK703 := n1_
                    have BK704 := n2_
                    have HB := n3_
                    have BK718 := n4_
                    have GW718 := n5_
                    have GE718 := n6_
                    have NB702_718 := n7_
                    have NB718_702 := n8_
                    have NB703_718 := n9_
                    have NB718_703 := n10_
                    have NB704_718 := n11_
                    have NB718_704 := n12_
                    clear n0_ n1_ n2_ n3_ n4_ n5_ n6_ n7_ n8_ n9_ n10_ n11_ n12_
                    clear hb hbox hg
                    refine hK.out _ _ ⟨(blk_cell BK702.out 0).trans rfl, (blk_cell BK702.out 1).trans rfl, (blk_cell BK703.out 0).trans rfl, (blk_cell BK703.out 1).trans rfl⟩ (fun hHeld => ?_)
                    clear hK K
                    refine norm_ (a' := ?_) ?_ ?_
                    rotate_left
                    ·show Act.put _ (some 7) _ = _
                     simp only [Act.put, List.setIfInBounds_toArray, List.set_cons_zero, List.set_cons_succ, i64_w, i32_w]
                     rfl
                    exact norm_ (by first | (simp only [putAll, Act.put, List.setIfInBounds_toArray, List.set_cons_zero, List.set_cons_succ]; done) | (simp only [putAll, Act.put, List.setIfInBounds_toArray, List.set_cons_zero, List.set_cons_succ]; rfl)) (hJ24 (gb718) _ ⟨hHeld, (bq BK702), (bq BK703), (bq BK704), (bq BK718), GW718.out, GE718.out, NB702_718.out, NB718_702.out, NB703_718.out, NB718_703.out, NB704_718.out, NB718_704.out, (bw HB)⟩)
                  ·skip
                   rintro gb718 w38 ⟨hS_, h0_, h1_, h2_, h3_, h4_, h5_, h6_, h7_, h8_, h9_, h10_, h11_, h12_⟩
                   have n0_ : Aside0 (w38.heap[gb702]? = some (.cells #[.int .i64 a0_0, .int .i64 a0_1] 35 (0, 0))) := ⟨h0_⟩
                   have n1_ : Aside0 (w38.heap[gb703]? = some (.cells #[.int .i64 a1_0, .int .i64 a1_1] 35 (0, 0))) := ⟨h1_⟩
                   have n2_ : Aside0 (w38.heap[gb704]? = some (.cells #[.int .i64 0, .int .i64 0] 35 (0, 0))) := ⟨h2_⟩
                   have n3_ : Aside0 (w38.heap[gb718]? = some (.cells #[.int .u64 0, .int .u64 0] 61 (0, 0))) := ⟨h3_⟩
                   have n4_ : Aside0 (w.heap.size ≤ gb718) := ⟨h4_⟩
                   have n5_ : Aside0 (w.heap.size ≤ gb718) := ⟨h5_⟩
                   have n6_ : Aside0 (gb702 ≠ gb718) := ⟨h6_⟩
                   have n7_ : Aside0 (gb718 ≠ gb702) := ⟨h7_⟩
                   have n8_ : Aside0 (gb703 ≠ gb718) := ⟨h8_⟩
                   have n9_ : Aside0 (gb718 ≠ gb703) := ⟨h9_⟩
                   have n10_ : Aside0 (gb704 ≠ gb718) := ⟨h10_⟩
                   have n11_ : Aside0 (gb718 ≠ gb704) := ⟨h11_⟩
                   have n12_ : Aside0 (Below w.heap.size w w38) := ⟨h12_⟩
                   clear BK702
                   clear BK703
                   clear BK704
                   clear HB
                   clear h0_ h1_ h2_ h3_ h4_ h5_ h6_ h7_ h8_ h9_ h10_ h11_ h12_
                   have BK702 := n0_
                   have BK703 := n1_
                   have BK704 := n2_
                   have BK718 := n3_
                   have GW718 := n4_
                   have GE718 := n5_
                   have NB702_718 := n6_
                   have NB718_702 := n7_
                   have NB703_718 := n8_
                   have NB718_703 := n9_
                   have NB704_718 := n10_
                   have NB718_704 := n11_
                   have HB := n12_
                   clear n0_ n1_ n2_ n3_ n4_ n5_ n6_ n7_ n8_ n9_ n10_ n11_ n12_
                   have hHeld : w38.cell? ⟨gb702, 0, none⟩ = some (.int .i64 a0_0) ∧ w38.cell? ⟨gb702, 1, none⟩ = some (.int .i64 a0_1) ∧ w38.cell? ⟨gb703, 0, none⟩ = some (.int .i64 a1_0) ∧ w38.cell? ⟨gb703, 1, none⟩ = some (.int .i64 a1_1) := hS_
                   refine norm_ (a' := ?_) ?_ ?_
                   rotate_left
                   ·simp only [putAll, Act.put, List.setIfInBounds_toArray, List.set_cons_zero, List.set_cons_succ]
                    rfl
                   refine one_ (i := 5) (N := some 23) #[true, true, true, true, true, true, true, true, false, false, true, true, true, true, true, false, true, true, false, false, false, false, false, false, true, false, false] rfl rfl (one_of HT_.out (by kernel_rfl)) (by decide) (fun K hK => ?_)
                   refine goes_ Try.func51 (by kernel_rfl) rfl #[.int .i64 a0_0] (by rfl) rfl rfl (by (try simp only [List.map_toArray, List.map_cons, List.map_nil]); first | done | rfl | (simp only [List.length_drop, List.length_take]; rfl)) ?_
                   with_reducible refine (awardingbodyref01_Size.calls a0_0 t707 _ A25.out).mono ?_
                   rintro e w' ⟨rfl, ⟨nd, rfl⟩⟩
                   refine ⟨_, rfl, ?_⟩
                   refine hK.out _ _ ⟨(blk_cell BK702.out 0).trans rfl, (blk_cell BK702.out 1).trans rfl, (blk_cell BK703.out 0).trans rfl, (blk_cell BK703.out 1).trans rfl⟩ (fun hHeld => ?_)
                   clear hK K
                   refine norm_ (a' := ?_) ?_ ?_
                   rotate_left
                   ·show Act.put _ (some 23) _ = _
                    simp only [Act.put, List.setIfInBounds_toArray, List.set_cons_zero, List.set_cons_succ, i64_w, i32_w]
                    rfl
                   exact norm_ (by first | (simp only [putAll, Act.put, List.setIfInBounds_toArray, List.set_cons_zero, List.set_cons_succ]; done) | (simp only [putAll, Act.put, List.setIfInBounds_toArray, List.set_cons_zero, List.set_cons_succ]; rfl)) (hJ5_24 (gb718) _ ⟨hHeld, (bq BK702), (bq BK703), (bq BK704), (bq BK718), GW718.out, GE718.out, NB702_718.out, NB718_702.out, NB703_718.out, NB718_703.out, NB704_718.out, NB718_704.out, (bw HB)⟩)
                 ·skip
                  rintro _ w37 ⟨hS_, h0_, h1_, h2_, h3_⟩
                  have n0_ : Aside0 (w37.heap[gb702]? = some (.cells #[.int .i64 a0_0, .int .i64 a0_1] 35 (0, 0))) := ⟨h0_⟩
                  have n1_ : Aside0 (w37.heap[gb703]? = some (.cells #[.int .i64 a1_0, .int .i64 a1_1] 35 (0, 0))) := ⟨h1_⟩
                  have n2_ : Aside0 (w37.heap[gb704]? = some (.cells #[.int .i64 0, .int .i64 0] 35 (0, 0))) := ⟨h2_⟩
                  have n3_ : Aside0 (Below w.heap.size w w37) := ⟨h3_⟩
                  clear BK702
                  clear BK703
                  clear BK704
                  clear HB
                  clear h0_ h1_ h2_ h3_
                  have BK702 := n0_
                  have BK703 := n1_
                  have BK704 := n2_
                  have HB := n3_
                  clear n0_ n1_ n2_ n3_
                  have hHeld : w37.cell? ⟨gb702, 0, none⟩ = some (.int .i64 a0_0) ∧ w37.cell? ⟨gb702, 1, none⟩ = some (.int .i64 a0_1) ∧ w37.cell? ⟨gb703, 0, none⟩ = some (.int .i64 a1_0) ∧ w37.cell? ⟨gb703, 1, none⟩ = some (.int .i64 a1_1) := hS_
                  refine norm_ (a' := ?_) ?_ ?_
                  rotate_left
                  ·simp only [putAll, Act.put, List.setIfInBounds_toArray, List.set_cons_zero, List.set_cons_succ]
                   rfl
                  refine two_ (i := 8) (j := 24) (Ni := some 26) (Nj := some 7) #[true, true, true, true, true, true, true, true, true, false, true, true, true, true, true, false, true, true, false, false, false, false, false, false, false, false, false] #[true, true, true, true, true, true, true, true, false, false, true, true, true, true, true, false, true, true, false, false, false, false, false, false, true, false, false] rfl rfl rfl rfl (two_of HT_.out (by kernel_rfl)) (by decide) (by decide) (fun K hK => ?_) (fun K hK => ?_)
                  ·skip
                   refine goes_ Try.func51 (by kernel_rfl) rfl #[.int .i64 a1_1] (by rfl) rfl rfl (by (try simp only [List.map_toArray, List.map_cons, List.map_nil]); first | done | rfl | (simp only [List.length_drop, List.length_take]; rfl)) ?_
                   with_reducible refine (awardingbodyref01_Size.calls a1_1 t708 _ A26.out).mono ?_
                   rintro e w' ⟨rfl, ⟨nd, rfl⟩⟩
                   refine ⟨_, rfl, ?_⟩
                   refine hK.out _ _ ⟨(blk_cell BK702.out 0).trans rfl, (blk_cell BK702.out 1).trans rfl, (blk_cell BK703.out 0).trans rfl, (blk_cell BK703.out 1).trans rfl⟩ (fun hHeld => ?_)
                   clear hK K
                   refine norm_ (a' := ?_) ?_ ?_
                   rotate_left
                   ·show Act.put _ (some 26) _ = _
                    simp only [Act.put, List.setIfInBounds_toArray, List.set_cons_zero, List.set_cons_succ, i64_w, i32_w]
                    rfl
                   exact norm_ (by first | (simp only [putAll, Act.put, List.setIfInBounds_toArray, List.set_cons_zero, List.set_cons_succ]; done) | (simp only [putAll, Act.put, List.setIfInBounds_toArray, List.set_cons_zero, List.set_cons_succ]; rfl)) (hJ5_8 () _ ⟨hHeld, (bq BK702), (bq BK703), (bq BK704), (bw HB)⟩)
                  ·skip
                   refine box_step ?hg (N := 7) ?hd (cs := #[.int .u64 0, .int .u64 0]) (t := 61) ?hr ?_; (case hd => rfl); (case hg => rfl); (case hr => first | (go_simp; done) | (go_simp; rfl))
                   intro gb718 hg w38 hbox hb
                   have n0_ := kb BK702 hb
                   have n1_ := kb BK703 hb
                   have n2_ := kb BK704 hb
                   have n3_ := wb HB hb
                   have n4_ := Aside0.mk (hbox)
                   have n5_ := gs HB hg
                   have n6_ := gs HB hg
                   have n7_ := nl BK702 hg
                   have n8_ := nr BK702 hg
                   have n9_ := nl BK703 hg
                   have n10_ := nr BK703 hg
                   have n11_ := nl BK704 hg
                   have n12_ := nr BK704 hg
                   clear BK702
                   clear BK703
                   clear BK704
                   clear HB
                   have BK702 := n0_
                   have BK703 := n1_
                   have BK704 := n2_
                   have HB := n3_
                   have BK718 := n4_
                   have GW718 := n5_
                   have GE718 := n6_
                   have NB702_718 := n7_
                   have NB718_702 := n8_
                   have NB703_718 := n9_
                   have NB718_703 := n10_
                   have NB704_718 := n11_
                   have NB718_704 := n12_
                   clear n0_ n1_ n2_ n3_ n4_ n5_ n6_ n7_ n8_ n9_ n10_ n11_ n12_
                   clear hb hbox hg
                   refine hK.out _ _ ⟨(blk_cell BK702.out 0).trans rfl, (blk_cell BK702.out 1).trans rfl, (blk_cell BK703.out 0).trans rfl, (blk_cell BK703.out 1).trans rfl⟩ (fun hHeld => ?_)
                   clear hK K
                   refine norm_ (a' := ?_) ?_ ?_
                   rotate_left
                   ·show Act.put _ (some 7) _ = _
                    simp only [Act.put, List.setIfInBounds_toArray, List.set_cons_zero, List.set_cons_succ, i64_w, i32_w]
                    rfl
                   exact norm_ (by first | (simp only [putAll, Act.put, List.setIfInBounds_toArray, List.set_cons_zero, List.set_cons_succ]; done) | (simp only [putAll, Act.put, List.setIfInBounds_toArray, List.set_cons_zero, List.set_cons_succ]; rfl)) (hJ5_24 (gb718) _ ⟨hHeld, (bq BK702), (bq BK703), (bq BK704), (bq BK718), GW718.out, GE718.out, NB702_718.out, NB718_702.out, NB703_718.out, NB718_703.out, NB704_718.out, NB718_704.out, (bw HB)⟩)
                ·skip
                 rintro gb718 w38 ⟨hS_, h0_, h1_, h2_, h3_, h4_, h5_, h6_, h7_, h8_, h9_, h10_, h11_, h12_⟩
                 have n0_ : Aside0 (w38.heap[gb702]? = some (.cells #[.int .i64 a0_0, .int .i64 a0_1] 35 (0, 0))) := ⟨h0_⟩
                 have n1_ : Aside0 (w38.heap[gb703]? = some (.cells #[.int .i64 a1_0, .int .i64 a1_1] 35 (0, 0))) := ⟨h1_⟩
                 have n2_ : Aside0 (w38.heap[gb704]? = some (.cells #[.int .i64 0, .int .i64 0] 35 (0, 0))) := ⟨h2_⟩
                 have n3_ : Aside0 (w38.heap[gb718]? = some (.cells #[.int .u64 0, .int .u64 0] 61 (0, 0))) := ⟨h3_⟩
                 have n4_ : Aside0 (w.heap.size ≤ gb718) := ⟨h4_⟩
                 have n5_ : Aside0 (w.heap.size ≤ gb718) := ⟨h5_⟩
                 have n6_ : Aside0 (gb702 ≠ gb718) := ⟨h6_⟩
                 have n7_ : Aside0 (gb718 ≠ gb702) := ⟨h7_⟩
                 have n8_ : Aside0 (gb703 ≠ gb718) := ⟨h8_⟩
                 have n9_ : Aside0 (gb718 ≠ gb703) := ⟨h9_⟩
                 have n10_ : Aside0 (gb704 ≠ gb718) := ⟨h10_⟩
                 have n11_ : Aside0 (gb718 ≠ gb704) := ⟨h11_⟩
                 have n12_ : Aside0 (Below w.heap.size w w38) := ⟨h12_⟩
                 clear BK702
                 clear BK703
                 clear BK704
                 clear HB
                 clear h0_ h1_ h2_ h3_ h4_ h5_ h6_ h7_ h8_ h9_ h10_ h11_ h12_
                 have BK702 := n0_
                 have BK703 := n1_
                 have BK704 := n2_
                 have BK718 := n3_
                 have GW718 := n4_
                 have GE718 := n5_
                 have NB702_718 := n6_
                 have NB718_702 := n7_
                 have NB703_718 := n8_
                 have NB718_703 := n9_
                 have NB704_718 := n10_
                 have NB718_704 := n11_
                 have HB := n12_
                 clear n0_ n1_ n2_ n3_ n4_ n5_ n6_ n7_ n8_ n9_ n10_ n11_ n12_
                 have hHeld : w38.cell? ⟨gb702, 0, none⟩ = some (.int .i64 a0_0) ∧ w38.cell? ⟨gb702, 1, none⟩ = some (.int .i64 a0_1) ∧ w38.cell? ⟨gb703, 0, none⟩ = some (.int .i64 a1_0) ∧ w38.cell? ⟨gb703, 1, none⟩ = some (.int .i64 a1_1) := hS_
                 refine norm_ (a' := ?_) ?_ ?_
                 rotate_left
                 ·simp only [putAll, Act.put, List.setIfInBounds_toArray, List.set_cons_zero, List.set_cons_succ]
                  rfl
                 refine one_ (i := 8) (N := some 26) #[true, true, true, true, true, true, true, true, true, false, true, true, true, true, true, false, true, true, false, false, false, false, false, false, true, false, false] rfl rfl (one_of HT_.out (by kernel_rfl)) (by decide) (fun K hK => ?_)
                 refine goes_ Try.func51 (by kernel_rfl) rfl #[.int .i64 a1_1] (by rfl) rfl rfl (by (try simp only [List.map_toArray, List.map_cons, List.map_nil]); first | done | rfl | (simp only [List.length_drop, List.length_take]; rfl)) ?_
                 with_reducible refine (awardingbodyref01_Size.calls a1_1 t708 _ A26.out).mono ?_
                 rintro e w' ⟨rfl, ⟨nd, rfl⟩⟩
                 refine ⟨_, rfl, ?_⟩
                 refine hK.out _ _ ⟨(blk_cell BK702.out 0).trans rfl, (blk_cell BK702.out 1).trans rfl, (blk_cell BK703.out 0).trans rfl, (blk_cell BK703.out 1).trans rfl⟩ (fun hHeld => ?_)
                 clear hK K
                 refine norm_ (a' := ?_) ?_ ?_
                 rotate_left
                 ·show Act.put _ (some 26) _ = _
                  simp only [Act.put, List.setIfInBounds_toArray, List.set_cons_zero, List.set_cons_succ, i64_w, i32_w]
                  rfl
                 exact norm_ (by first | (simp only [putAll, Act.put, List.setIfInBounds_toArray, List.set_cons_zero, List.set_cons_succ]; done) | (simp only [putAll, Act.put, List.setIfInBounds_toArray, List.set_cons_zero, List.set_cons_succ]; rfl)) (hJ5_8_24 (gb718) _ ⟨hHeld, (bq BK702), (bq BK703), (bq BK704), (bq BK718), GW718.out, GE718.out, NB702_718.out, NB718_702.out, NB703_718.out, NB718_703.out, NB704_718.out, NB718_704.out, (bw HB)⟩)
               ·skip
                rintro _ w37 ⟨hS_, h0_, h1_, h2_, h3_⟩
                have n0_ : Aside0 (w37.heap[gb702]? = some (.cells #[.int .i64 a0_0, .int .i64 a0_1] 35 (0, 0))) := ⟨h0_⟩
                have n1_ : Aside0 (w37.heap[gb703]? = some (.cells #[.int .i64 a1_0, .int .i64 a1_1] 35 (0, 0))) := ⟨h1_⟩
                have n2_ : Aside0 (w37.heap[gb704]? = some (.cells #[.int .i64 0, .int .i64 0] 35 (0, 0))) := ⟨h2_⟩
                have n3_ : Aside0 (Below w.heap.size w w37) := ⟨h3_⟩
                clear BK702
                clear BK703
                clear BK704
                clear HB
                clear h0_ h1_ h2_ h3_
                have BK702 := n0_
                have BK703 := n1_
                have BK704 := n2_
                have HB := n3_
                clear n0_ n1_ n2_ n3_
                have hHeld : w37.cell? ⟨gb702, 0, none⟩ = some (.int .i64 a0_0) ∧ w37.cell? ⟨gb702, 1, none⟩ = some (.int .i64 a0_1) ∧ w37.cell? ⟨gb703, 0, none⟩ = some (.int .i64 a1_0) ∧ w37.cell? ⟨gb703, 1, none⟩ = some (.int .i64 a1_1) := hS_
                refine norm_ (a' := ?_) ?_ ?_
                rotate_left
                ·simp only [putAll, Act.put, List.setIfInBounds_toArray, List.set_cons_zero, List.set_cons_succ]
                 rfl
                refine two_ (i := 9) (j := 24) (Ni := some 27) (Nj := some 7) #[true, true, true, true, true, true, true, true, true, true, true, true, true, true, true, false, true, true, false, false, false, false, false, false, false, false, false] #[true, true, true, true, true, true, true, true, true, false, true, true, true, true, true, false, true, true, false, false, false, false, false, false, true, false, false] rfl rfl rfl rfl (two_of HT_.out (by kernel_rfl)) (by decide) (by decide) (fun K hK => ?_) (fun K hK => ?_)
                ·skip
                 refine goes_ Try.func58 (by kernel_rfl) rfl #[.int .u64 t707, .int .u64 t708] (by rfl) rfl rfl (by (try simp only [List.map_toArray, List.map_cons, List.map_nil]); first | done | rfl | (simp only [List.length_drop, List.length_take]; rfl)) ?_
                 with_reducible refine (awardingbodyref01_Product.calls t707 t708 t709 t710 _ A27.out).mono ?_
                 rintro e w38 ⟨rfl, hb⟩
                 refine ⟨_, rfl, ?_⟩
                 have n0_ := kb BK702 hb
                 have n1_ := kb BK703 hb
                 have n2_ := kb BK704 hb
                 have n3_ := wb HB hb
                 clear BK702
                 clear BK703
                 clear BK704
                 clear HB
                 have BK702 := n0_
                 have BK703 := n1_
                 have BK704 := n2_
                 have HB := n3_
                 clear n0_ n1_ n2_ n3_
                 (try clear hb)
                 (try clear hb2)
                 (try clear hk)
                 (try clear hi)
                 refine hK.out _ _ ⟨(blk_cell BK702.out 0).trans rfl, (blk_cell BK702.out 1).trans rfl, (blk_cell BK703.out 0).trans rfl, (blk_cell BK703.out 1).trans rfl⟩ (fun hHeld => ?_)
                 clear hK K
                 refine norm_ (a' := ?_) ?_ ?_
                 rotate_left
                 ·show Act.put _ (some 27) _ = _
                  simp only [Act.put, List.setIfInBounds_toArray, List.set_cons_zero, List.set_cons_succ, i64_w, i32_w]
                  rfl
                 exact norm_ (by first | (simp only [putAll, Act.put, List.setIfInBounds_toArray, List.set_cons_zero, List.set_cons_succ]; done) | (simp only [putAll, Act.put, List.setIfInBounds_toArray, List.set_cons_zero, List.set_cons_succ]; rfl)) (hJ5_8_9 () _ ⟨hHeld, (bq BK702), (bq BK703), (bq BK704), (bw HB)⟩)
                ·skip
                 refine box_step ?hg (N := 7) ?hd (cs := #[.int .u64 0, .int .u64 0]) (t := 61) ?hr ?_; (case hd => rfl); (case hg => rfl); (case hr => first | (go_simp; done) | (go_simp; rfl))
                 intro gb718 hg w38 hbox hb
                 have n0_ := kb BK702 hb
                 have n1_ := kb BK703 hb
                 have n2_ := kb BK704 hb
                 have n3_ := wb HB hb
                 have n4_ := Aside0.mk (hbox)
                 have n5_ := gs HB hg
                 have n6_ := gs HB hg
                 have n7_ := nl BK702 hg
                 have n8_ := nr BK702 hg
                 have n9_ := nl BK703 hg
                 have n10_ := nr BK703 hg
                 have n11_ := nl BK704 hg
                 have n12_ := nr BK704 hg
                 clear BK702
                 clear BK703
                 clear BK704
                 clear HB
                 have BK702 := n0_
                 have BK703 := n1_
                 have BK704 := n2_
                 have HB := n3_
                 have BK718 := n4_
                 have GW718 := n5_
                 have GE718 := n6_
                 have NB702_718 := n7_
                 have NB718_702 := n8_
                 have NB703_718 := n9_
                 have NB718_703 := n10_
                 have NB704_718 := n11_
                 have NB718_704 := n12_
                 clear n0_ n1_ n2_ n3_ n4_ n5_ n6_ n7_ n8_ n9_ n10_ n11_ n12_
                 clear hb hbox hg
                 refine hK.out _ _ ⟨(blk_cell BK702.out 0).trans rfl, (blk_cell BK702.out 1).trans rfl, (blk_cell BK703.out 0).trans rfl, (blk_cell BK703.out 1).trans rfl⟩ (fun hHeld => ?_)
                 clear hK K
                 refine norm_ (a' := ?_) ?_ ?_
                 rotate_left
                 ·show Act.put _ (some 7) _ = _
                  simp only [Act.put, List.setIfInBounds_toArray, List.set_cons_zero, List.set_cons_succ, i64_w, i32_w]
                  rfl
                 exact norm_ (by first | (simp only [putAll, Act.put, List.setIfInBounds_toArray, List.set_cons_zero, List.set_cons_succ]; done) | (simp only [putAll, Act.put, List.setIfInBounds_toArray, List.set_cons_zero, List.set_cons_succ]; rfl)) (hJ5_8_24 (gb718) _ ⟨hHeld, (bq BK702), (bq BK703), (bq BK704), (bq BK718), GW718.out, GE718.out, NB702_718.out, NB718_702.out, NB703_718.out, NB718_703.out, NB704_718.out, NB718_704.out, (bw HB)⟩)
              ·skip
               rintro gb718 w38 ⟨hS_, h0_, h1_, h2_, h3_, h4_, h5_, h6_, h7_, h8_, h9_, h10_, h11_, h12_⟩
               have n0_ : Aside0 (w38.heap[gb702]? = some (.cells #[.int .i64 a0_0, .int .i64 a0_1] 35 (0, 0))) := ⟨h0_⟩
               have n1_ : Aside0 (w38.heap[gb703]? = some (.cells #[.int .i64 a1_0, .int .i64 a1_1] 35 (0, 0))) := ⟨h1_⟩
               have n2_ : Aside0 (w38.heap[gb704]? = some (.cells #[.int .i64 0, .int .i64 0] 35 (0, 0))) := ⟨h2_⟩
               have n3_ : Aside0 (w38.heap[gb718]? = some (.cells #[.int .u64 0, .int .u64 0] 61 (0, 0))) := ⟨h3_⟩
               have n4_ : Aside0 (w.heap.size ≤ gb718) := ⟨h4_⟩
               have n5_ : Aside0 (w.heap.size ≤ gb718) := ⟨h5_⟩
               have n6_ : Aside0 (gb702 ≠ gb718) := ⟨h6_⟩
               have n7_ : Aside0 (gb718 ≠ gb702) := ⟨h7_⟩
               have n8_ : Aside0 (gb703 ≠ gb718) := ⟨h8_⟩
               have n9_ : Aside0 (gb718 ≠ gb703) := ⟨h9_⟩
               have n10_ : Aside0 (gb704 ≠ gb718) := ⟨h10_⟩
               have n11_ : Aside0 (gb718 ≠ gb704) := ⟨h11_⟩
               have n12_ : Aside0 (Below w.heap.size w w38) := ⟨h12_⟩
               clear BK702
               clear BK703
               clear BK704
               clear HB
               clear h0_ h1_ h2_ h3_ h4_ h5_ h6_ h7_ h8_ h9_ h10_ h11_ h12_
               have BK702 := n0_
               have BK703 := n1_
               have BK704 := n2_
               have BK718 := n3_
               have GW718 := n4_
               have GE718 := n5_
               have NB702_718 := n6_
               have NB718_702 := n7_
               have NB703_718 := n8_
               have NB718_703 := n9_
               have NB704_718 := n10_
               have NB718_704 := n11_
               have HB := n12_
               clear n0_ n1_ n2_ n3_ n4_ n5_ n6_ n7_ n8_ n9_ n10_ n11_ n12_
               have hHeld : w38.cell? ⟨gb702, 0, none⟩ = some (.int .i64 a0_0) ∧ w38.cell? ⟨gb702, 1, none⟩ = some (.int .i64 a0_1) ∧ w38.cell? ⟨gb703, 0, none⟩ = some (.int .i64 a1_0) ∧ w38.cell? ⟨gb703, 1, none⟩ = some (.int .i64 a1_1) := hS_
               refine norm_ (a' := ?_) ?_ ?_
               rotate_left
               ·simp only [putAll, Act.put, List.setIfInBounds_toArray, List.set_cons_zero, List.set_cons_succ]
                rfl
               refine one_ (i := 9) (N := some 27) #[true, true, true, true, true, true, true, true, true, true, true, true, true, true, true, false, true, true, false, false, false, false, false, false, true, false, false] rfl rfl (one_of HT_.out (by kernel_rfl)) (by decide) (fun K hK => ?_)
               refine goes_ Try.func58 (by kernel_rfl) rfl #[.int .u64 t707, .int .u64 t708] (by rfl) rfl rfl (by (try simp only [List.map_toArray, List.map_cons, List.map_nil]); first | done | rfl | (simp only [List.length_drop, List.length_take]; rfl)) ?_
               with_reducible refine (awardingbodyref01_Product.calls t707 t708 t709 t710 _ A27.out).mono ?_
               rintro e w39 ⟨rfl, hb⟩
               refine ⟨_, rfl, ?_⟩
               have n0_ := kb BK702 hb
               have n1_ := kb BK703 hb
               have n2_ := kb BK704 hb
               have n3_ := kb BK718 hb
               have n4_ := wb HB hb
               clear BK702
               clear BK703
               clear BK704
               clear BK718
               clear HB
               have BK702 := n0_
               have BK703 := n1_
               have BK704 := n2_
               have BK718 := n3_
               have HB := n4_
               clear n0_ n1_ n2_ n3_ n4_
               (try clear hb)
               (try clear hb2)
               (try clear hk)
               (try clear hi)
               refine hK.out _ _ ⟨(blk_cell BK702.out 0).trans rfl, (blk_cell BK702.out 1).trans rfl, (blk_cell BK703.out 0).trans rfl, (blk_cell BK703.out 1).trans rfl⟩ (fun hHeld => ?_)
               clear hK K
               refine norm_ (a' := ?_) ?_ ?_
               rotate_left
               ·show Act.put _ (some 27) _ = _
                simp only [Act.put, List.setIfInBounds_toArray, List.set_cons_zero, List.set_cons_succ, i64_w, i32_w]
                rfl
               exact norm_ (by first | (simp only [putAll, Act.put, List.setIfInBounds_toArray, List.set_cons_zero, List.set_cons_succ]; done) | (simp only [putAll, Act.put, List.setIfInBounds_toArray, List.set_cons_zero, List.set_cons_succ]; rfl)) (hJ5_8_9_24 (gb718) _ ⟨hHeld, (bq BK702), (bq BK703), (bq BK704), (bq BK718), GW718.out, GE718.out, NB702_718.out, NB718_702.out, NB703_718.out, NB718_703.out, NB704_718.out, NB718_704.out, (bw HB)⟩)
             ·skip
              rintro _ w38 ⟨hS_, h0_, h1_, h2_, h3_⟩
              have n0_ : Aside0 (w38.heap[gb702]? = some (.cells #[.int .i64 a0_0, .int .i64 a0_1] 35 (0, 0))) := ⟨h0_⟩
              have n1_ : Aside0 (w38.heap[gb703]? = some (.cells #[.int .i64 a1_0, .int .i64 a1_1] 35 (0, 0))) := ⟨h1_⟩
              have n2_ : Aside0 (w38.heap[gb704]? = some (.cells #[.int .i64 0, .int .i64 0] 35 (0, 0))) := ⟨h2_⟩
              have n3_ : Aside0 (Below w.heap.size w w38) := ⟨h3_⟩
              clear BK702
              clear BK703
              clear BK704
              clear HB
              clear h0_ h1_ h2_ h3_
              have BK702 := n0_
              have BK703 := n1_
              have BK704 := n2_
              have HB := n3_
              clear n0_ n1_ n2_ n3_
              have hHeld : w38.cell? ⟨gb702, 0, none⟩ = some (.int .i64 a0_0) ∧ w38.cell? ⟨gb702, 1, none⟩ = some (.int .i64 a0_1) ∧ w38.cell? ⟨gb703, 0, none⟩ = some (.int .i64 a1_0) ∧ w38.cell? ⟨gb703, 1, none⟩ = some (.int .i64 a1_1) := hS_
              refine norm_ (a' := ?_) ?_ ?_
              rotate_left
              ·simp only [putAll, Act.put, List.setIfInBounds_toArray, List.set_cons_zero, List.set_cons_succ]
               rfl
              refine two_ (i := 15) (j := 24) (Ni := some 33) (Nj := some 7) #[true, true, true, true, true, true, true, true, true, true, true, true, true, true, true, true, true, true, false, false, false, false, false, false, false, false, false] #[true, true, true, true, true, true, true, true, true, true, true, true, true, true, true, false, true, true, false, false, false, false, false, false, true, false, false] rfl rfl rfl rfl (two_of HT_.out (by kernel_rfl)) (by decide) (by decide) (fun K hK => ?_) (fun K hK => ?_)
              ·skip
               refine goes_ Try.func51 (by kernel_rfl) rfl #[.int .i64 a1_0] (by rfl) rfl rfl (by (try simp only [List.map_toArray, List.map_cons, List.map_nil]); first | done | rfl | (simp only [List.length_drop, List.length_take]; rfl)) ?_
               with_reducible refine (awardingbodyref01_Size.calls a1_0 t711 _ A28.out).mono ?_
               rintro e w' ⟨rfl, ⟨nd, rfl⟩⟩
               refine ⟨_, rfl, ?_⟩
               refine hK.out _ _ ⟨(blk_cell BK702.out 0).trans rfl, (blk_cell BK702.out 1).trans rfl, (blk_cell BK703.out 0).trans rfl, (blk_cell BK703.out 1).trans rfl⟩ (fun hHeld => ?_)
               clear hK K
               refine norm_ (a' := ?_) ?_ ?_
               rotate_left
               ·show Act.put _ (some 33) _ = _
                simp only [Act.put, List.setIfInBounds_toArray, List.set_cons_zero, List.set_cons_succ, i64_w, i32_w]
                rfl
               exact norm_ (by first | (simp only [putAll, Act.put, List.setIfInBounds_toArray, List.set_cons_zero, List.set_cons_succ]; done) | (simp only [putAll, Act.put, List.setIfInBounds_toArray, List.set_cons_zero, List.set_cons_succ]; rfl)) (hJ5_8_9_15 () _ ⟨hHeld, (bq BK702), (bq BK703), (bq BK704), (bw HB)⟩)
              ·skip
               refine box_step ?hg (N := 7) ?hd (cs := #[.int .u64 0, .int .u64 0]) (t := 61) ?hr ?_; (case hd => rfl); (case hg => rfl); (case hr => first | (go_simp; done) | (go_simp; rfl))
               intro gb718 hg w39 hbox hb
               have n0_ := kb BK702 hb
               have n1_ := kb BK703 hb
               have n2_ := kb BK704 hb
               have n3_ := wb HB hb
               have n4_ := Aside0.mk (hbox)
               have n5_ := gs HB hg
               have n6_ := gs HB hg
               have n7_ := nl BK702 hg
               have n8_ := nr BK702 hg
               have n9_ := nl BK703 hg
               have n10_ := nr BK703 hg
               have n11_ := nl BK704 hg
               have n12_ := nr BK704 hg
               clear BK702
               clear BK703
               clear BK704
               clear HB
               have BK702 := n0_
               have BK703 := n1_
               have BK704 := n2_
               have HB := n3_
               have BK718 := n4_
               have GW718 := n5_
               have GE718 := n6_
               have NB702_718 := n7_
               have NB718_702 := n8_
               have NB703_718 := n9_
               have NB718_703 := n10_
               have NB704_718 := n11_
               have NB718_704 := n12_
               clear n0_ n1_ n2_ n3_ n4_ n5_ n6_ n7_ n8_ n9_ n10_ n11_ n12_
               clear hb hbox hg
               refine hK.out _ _ ⟨(blk_cell BK702.out 0).trans rfl, (blk_cell BK702.out 1).trans rfl, (blk_cell BK703.out 0).trans rfl, (blk_cell BK703.out 1).trans rfl⟩ (fun hHeld => ?_)
               clear hK K
               refine norm_ (a' := ?_) ?_ ?_
               rotate_left
               ·show Act.put _ (some 7) _ = _
                simp only [Act.put, List.setIfInBounds_toArray, List.set_cons_zero, List.set_cons_succ, i64_w, i32_w]
                rfl
               exact norm_ (by first | (simp only [putAll, Act.put, List.setIfInBounds_toArray, List.set_cons_zero, List.set_cons_succ]; done) | (simp only [putAll, Act.put, List.setIfInBounds_toArray, List.set_cons_zero, List.set_cons_succ]; rfl)) (hJ5_8_9_24 (gb718) _ ⟨hHeld, (bq BK702), (bq BK703), (bq BK704), (bq BK718), GW718.out, GE718.out, NB702_718.out, NB718_702.out, NB703_718.out, NB718_703.out, NB704_718.out, NB718_704.out, (bw HB)⟩)
            ·skip
             rintro gb718 w39 ⟨hS_, h0_, h1_, h2_, h3_, h4_, h5_, h6_, h7_, h8_, h9_, h10_, h11_, h12_⟩
             have n0_ : Aside0 (w39.heap[gb702]? = some (.cells #[.int .i64 a0_0, .int .i64 a0_1] 35 (0, 0))) := ⟨h0_⟩
             have n1_ : Aside0 (w39.heap[gb703]? = some (.cells #[.int .i64 a1_0, .int .i64 a1_1] 35 (0, 0))) := ⟨h1_⟩
             have n2_ : Aside0 (w39.heap[gb704]? = some (.cells #[.int .i64 0, .int .i64 0] 35 (0, 0))) := ⟨h2_⟩
             have n3_ : Aside0 (w39.heap[gb718]? = some (.cells #[.int .u64 0, .int .u64 0] 61 (0, 0))) := ⟨h3_⟩
             have n4_ : Aside0 (w.heap.size ≤ gb718) := ⟨h4_⟩
             have n5_ : Aside0 (w.heap.size ≤ gb718) := ⟨h5_⟩
             have n6_ : Aside0 (gb702 ≠ gb718) := ⟨h6_⟩
             have n7_ : Aside0 (gb718 ≠ gb702) := ⟨h7_⟩
             have n8_ : Aside0 (gb703 ≠ gb718) := ⟨h8_⟩
             have n9_ : Aside0 (gb718 ≠ gb703) := ⟨h9_⟩
             have n10_ : Aside0 (gb704 ≠ gb718) := ⟨h10_⟩
             have n11_ : Aside0 (gb718 ≠ gb704) := ⟨h11_⟩
             have n12_ : Aside0 (Below w.heap.size w w39) := ⟨h12_⟩
             clear BK702
             clear BK703
             clear BK704
             clear HB
             clear h0_ h1_ h2_ h3_ h4_ h5_ h6_ h7_ h8_ h9_ h10_ h11_ h12_
             have BK702 := n0_
             have BK703 := n1_
             have BK704 := n2_
             have BK718 := n3_
             have GW718 := n4_
             have GE718 := n5_
             have NB702_718 := n6_
             have NB718_702 := n7_
             have NB703_718 := n8_
             have NB718_703 := n9_
             have NB704_718 := n10_
             have NB718_704 := n11_
             have HB := n12_
             clear n0_ n1_ n2_ n3_ n4_ n5_ n6_ n7_ n8_ n9_ n10_ n11_ n12_
             have hHeld : w39.cell? ⟨gb702, 0, none⟩ = some (.int .i64 a0_0) ∧ w39.cell? ⟨gb702, 1, none⟩ = some (.int .i64 a0_1) ∧ w39.cell? ⟨gb703, 0, none⟩ = some (.int .i64 a1_0) ∧ w39.cell? ⟨gb703, 1, none⟩ = some (.int .i64 a1_1) := hS_
             refine norm_ (a' := ?_) ?_ ?_
             rotate_left
             ·simp only [putAll, Act.put, List.setIfInBounds_toArray, List.set_cons_zero, List.set_cons_succ]
              rfl
             refine one_ (i := 15) (N := some 33) #[true, true, true, true, true, true, true, true, true, true, true, true, true, true, true, true, true, true, false, false, false, false, false, false, true, false, false] rfl rfl (one_of HT_.out (by kernel_rfl)) (by decide) (fun K hK => ?_)
             refine goes_ Try.func51 (by kernel_rfl) rfl #[.int .i64 a1_0] (by rfl) rfl rfl (by (try simp only [List.map_toArray, List.map_cons, List.map_nil]); first | done | rfl | (simp only [List.length_drop, List.length_take]; rfl)) ?_
             with_reducible refine (awardingbodyref01_Size.calls a1_0 t711 _ A28.out).mono ?_
             rintro e w' ⟨rfl, ⟨nd, rfl⟩⟩
             refine ⟨_, rfl, ?_⟩
             refine hK.out _ _ ⟨(blk_cell BK702.out 0).trans rfl, (blk_cell BK702.out 1).trans rfl, (blk_cell BK703.out 0).trans rfl, (blk_cell BK703.out 1).trans rfl⟩ (fun hHeld => ?_)
             clear hK K
             refine norm_ (a' := ?_) ?_ ?_
             rotate_left
             ·show Act.put _ (some 33) _ = _
              simp only [Act.put, List.setIfInBounds_toArray, List.set_cons_zero, List.set_cons_succ, i64_w, i32_w]
              rfl
             exact norm_ (by first | (simp only [putAll, Act.put, List.setIfInBounds_toArray, List.set_cons_zero, List.set_cons_succ]; done) | (simp only [putAll, Act.put, List.setIfInBounds_toArray, List.set_cons_zero, List.set_cons_succ]; rfl)) (hJ5_8_9_15_24 (gb718) _ ⟨hHeld, (bq BK702), (bq BK703), (bq BK704), (bq BK718), GW718.out, GE718.out, NB702_718.out, NB718_702.out, NB703_718.out, NB718_703.out, NB704_718.out, NB718_704.out, (bw HB)⟩)
           ·skip
            rintro _ w38 ⟨hS_, h0_, h1_, h2_, h3_⟩
            have n0_ : Aside0 (w38.heap[gb702]? = some (.cells #[.int .i64 a0_0, .int .i64 a0_1] 35 (0, 0))) := ⟨h0_⟩
            have n1_ : Aside0 (w38.heap[gb703]? = some (.cells #[.int .i64 a1_0, .int .i64 a1_1] 35 (0, 0))) := ⟨h1_⟩
            have n2_ : Aside0 (w38.heap[gb704]? = some (.cells #[.int .i64 0, .int .i64 0] 35 (0, 0))) := ⟨h2_⟩
            have n3_ : Aside0 (Below w.heap.size w w38) := ⟨h3_⟩
            clear BK702
            clear BK703
            clear BK704
            clear HB
            clear h0_ h1_ h2_ h3_
            have BK702 := n0_
            have BK703 := n1_
            have BK704 := n2_
            have HB := n3_
            clear n0_ n1_ n2_ n3_
            have hHeld : w38.cell? ⟨gb702, 0, none⟩ = some (.int .i64 a0_0) ∧ w38.cell? ⟨gb702, 1, none⟩ = some (.int .i64 a0_1) ∧ w38.cell? ⟨gb703, 0, none⟩ = some (.int .i64 a1_0) ∧ w38.cell? ⟨gb703, 1, none⟩ = some (.int .i64 a1_1) := hS_
            refine norm_ (a' := ?_) ?_ ?_
            rotate_left
            ·simp only [putAll, Act.put, List.setIfInBounds_toArray, List.set_cons_zero, List.set_cons_succ]
             rfl
            refine two_ (i := 18) (j := 24) (Ni := some 36) (Nj := some 7) #[true, true, true, true, true, true, true, true, true, true, true, true, true, true, true, true, true, true, true, false, false, false, false, false, false, false, false] #[true, true, true, true, true, true, true, true, true, true, true, true, true, true, true, true, true, true, false, false, false, false, false, false, true, false, false] rfl rfl rfl rfl (two_of HT_.out (by kernel_rfl)) (by decide) (by decide) (fun K hK => ?_) (fun K hK => ?_)
            ·skip
             refine goes_ Try.func51 (by kernel_rfl) rfl #[.int .i64 a0_1] (by rfl) rfl rfl (by (try simp only [List.map_toArray, List.map_cons, List.map_nil]); first | done | rfl | (simp only [List.length_drop, List.length_take]; rfl)) ?_
             with_reducible refine (awardingbodyref01_Size.calls a0_1 t712 _ A29.out).mono ?_
             rintro e w' ⟨rfl, ⟨nd, rfl⟩⟩
             refine ⟨_, rfl, ?_⟩
             refine hK.out _ _ ⟨(blk_cell BK702.out 0).trans rfl, (blk_cell BK702.out 1).trans rfl, (blk_cell BK703.out 0).trans rfl, (blk_cell BK703.out 1).trans rfl⟩ (fun hHeld => ?_)
             clear hK K
             refine norm_ (a' := ?_) ?_ ?_
             rotate_left
             ·show Act.put _ (some 36) _ = _
              simp only [Act.put, List.setIfInBounds_toArray, List.set_cons_zero, List.set_cons_succ, i64_w, i32_w]
              rfl
             exact norm_ (by first | (simp only [putAll, Act.put, List.setIfInBounds_toArray, List.set_cons_zero, List.set_cons_succ]; done) | (simp only [putAll, Act.put, List.setIfInBounds_toArray, List.set_cons_zero, List.set_cons_succ]; rfl)) (hJ5_8_9_15_18 () _ ⟨hHeld, (bq BK702), (bq BK703), (bq BK704), (bw HB)⟩)
            ·skip
             refine box_step ?hg (N := 7) ?hd (cs := #[.int .u64 0, .int .u64 0]) (t := 61) ?hr ?_; (case hd => rfl); (case hg => rfl); (case hr => first | (go_simp; done) | (go_simp; rfl))
             intro gb718 hg w39 hbox hb
             have n0_ := kb BK702 hb
             have n1_ := kb BK703 hb
             have n2_ := kb BK704 hb
             have n3_ := wb HB hb
             have n4_ := Aside0.mk (hbox)
             have n5_ := gs HB hg
             have n6_ := gs HB hg
             have n7_ := nl BK702 hg
             have n8_ := nr BK702 hg
             have n9_ := nl BK703 hg
             have n10_ := nr BK703 hg
             have n11_ := nl BK704 hg
             have n12_ := nr BK704 hg
             clear BK702
             clear BK703
             clear BK704
             clear HB
             have BK702 := n0_
             have BK703 := n1_
             have BK704 := n2_
             have HB := n3_
             have BK718 := n4_
             have GW718 := n5_
             have GE718 := n6_
             have NB702_718 := n7_
             have NB718_702 := n8_
             have NB703_718 := n9_
             have NB718_703 := n10_
             have NB704_718 := n11_
             have NB718_704 := n12_
             clear n0_ n1_ n2_ n3_ n4_ n5_ n6_ n7_ n8_ n9_ n10_ n11_ n12_
             clear hb hbox hg
             refine hK.out _ _ ⟨(blk_cell BK702.out 0).trans rfl, (blk_cell BK702.out 1).trans rfl, (blk_cell BK703.out 0).trans rfl, (blk_cell BK703.out 1).trans rfl⟩ (fun hHeld => ?_)
             clear hK K
             refine norm_ (a' := ?_) ?_ ?_
             rotate_left
             ·show Act.put _ (some 7) _ = _
              simp only [Act.put, List.setIfInBounds_toArray, List.set_cons_zero, List.set_cons_succ, i64_w, i32_w]
              rfl
             exact norm_ (by first | (simp only [putAll, Act.put, List.setIfInBounds_toArray, List.set_cons_zero, List.set_cons_succ]; done) | (simp only [putAll, Act.put, List.setIfInBounds_toArray, List.set_cons_zero, List.set_cons_succ]; rfl)) (hJ5_8_9_15_24 (gb718) _ ⟨hHeld, (bq BK702), (bq BK703), (bq BK704), (bq BK718), GW718.out, GE718.out, NB702_718.out, NB718_702.out, NB703_718.out, NB718_703.out, NB704_718.out, NB718_704.out, (bw HB)⟩)
          ·skip
           rintro gb718 w39 ⟨hS_, h0_, h1_, h2_, h3_, h4_, h5_, h6_, h7_, h8_, h9_, h10_, h11_, h12_⟩
           have n0_ : Aside0 (w39.heap[gb702]? = some (.cells #[.int .i64 a0_0, .int .i64 a0_1] 35 (0, 0))) := ⟨h0_⟩
           have n1_ : Aside0 (w39.heap[gb703]? = some (.cells #[.int .i64 a1_0, .int .i64 a1_1] 35 (0, 0))) := ⟨h1_⟩
           have n2_ : Aside0 (w39.heap[gb704]? = some (.cells #[.int .i64 0, .int .i64 0] 35 (0, 0))) := ⟨h2_⟩
           have n3_ : Aside0 (w39.heap[gb718]? = some (.cells #[.int .u64 0, .int .u64 0] 61 (0, 0))) := ⟨h3_⟩
           have n4_ : Aside0 (w.heap.size ≤ gb718) := ⟨h4_⟩
           have n5_ : Aside0 (w.heap.size ≤ gb718) := ⟨h5_⟩
           have n6_ : Aside0 (gb702 ≠ gb718) := ⟨h6_⟩
           have n7_ : Aside0 (gb718 ≠ gb702) := ⟨h7_⟩
           have n8_ : Aside0 (gb703 ≠ gb718) := ⟨h8_⟩
           have n9_ : Aside0 (gb718 ≠ gb703) := ⟨h9_⟩
           have n10_ : Aside0 (gb704 ≠ gb718) := ⟨h10_⟩
           have n11_ : Aside0 (gb718 ≠ gb704) := ⟨h11_⟩
           have n12_ : Aside0 (Below w.heap.size w w39) := ⟨h12_⟩
           clear BK702
           clear BK703
           clear BK704
           clear HB
           clear h0_ h1_ h2_ h3_ h4_ h5_ h6_ h7_ h8_ h9_ h10_ h11_ h12_
           have BK702 := n0_
           have BK703 := n1_
           have BK704 := n2_
           have BK718 := n3_
           have GW718 := n4_
           have GE718 := n5_
           have NB702_718 := n6_
           have NB718_702 := n7_
           have NB703_718 := n8_
           have NB718_703 := n9_
           have NB704_718 := n10_
           have NB718_704 := n11_
           have HB := n12_
           clear n0_ n1_ n2_ n3_ n4_ n5_ n6_ n7_ n8_ n9_ n10_ n11_ n12_
           have hHeld : w39.cell? ⟨gb702, 0, none⟩ = some (.int .i64 a0_0) ∧ w39.cell? ⟨gb702, 1, none⟩ = some (.int .i64 a0_1) ∧ w39.cell? ⟨gb703, 0, none⟩ = some (.int .i64 a1_0) ∧ w39.cell? ⟨gb703, 1, none⟩ = some (.int .i64 a1_1) := hS_
           refine norm_ (a' := ?_) ?_ ?_
           rotate_left
           ·simp only [putAll, Act.put, List.setIfInBounds_toArray, List.set_cons_zero, List.set_cons_succ]
            rfl
           refine one_ (i := 18) (N := some 36) #[true, true, true, true, true, true, true, true, true, true, true, true, true, true, true, true, true, true, true, false, false, false, false, false, true, false, false] rfl rfl (one_of HT_.out (by kernel_rfl)) (by decide) (fun K hK => ?_)
           refine goes_ Try.func51 (by kernel_rfl) rfl #[.int .i64 a0_1] (by rfl) rfl rfl (by (try simp only [List.map_toArray, List.map_cons, List.map_nil]); first | done | rfl | (simp only [List.length_drop, List.length_take]; rfl)) ?_
           with_reducible refine (awardingbodyref01_Size.calls a0_1 t712 _ A29.out).mono ?_
           rintro e w' ⟨rfl, ⟨nd, rfl⟩⟩
           refine ⟨_, rfl, ?_⟩
           refine hK.out _ _ ⟨(blk_cell BK702.out 0).trans rfl, (blk_cell BK702.out 1).trans rfl, (blk_cell BK703.out 0).trans rfl, (blk_cell BK703.out 1).trans rfl⟩ (fun hHeld => ?_)
           clear hK K
           refine norm_ (a' := ?_) ?_ ?_
           rotate_left
           ·show Act.put _ (some 36) _ = _
            simp only [Act.put, List.setIfInBounds_toArray, List.set_cons_zero, List.set_cons_succ, i64_w, i32_w]
            rfl
           exact norm_ (by first | (simp only [putAll, Act.put, List.setIfInBounds_toArray, List.set_cons_zero, List.set_cons_succ]; done) | (simp only [putAll, Act.put, List.setIfInBounds_toArray, List.set_cons_zero, List.set_cons_succ]; rfl)) (hJ5_8_9_15_18_24 (gb718) _ ⟨hHeld, (bq BK702), (bq BK703), (bq BK704), (bq BK718), GW718.out, GE718.out, NB702_718.out, NB718_702.out, NB703_718.out, NB718_703.out, NB704_718.out, NB718_704.out, (bw HB)⟩)
         ·skip
          rintro _ w38 ⟨hS_, h0_, h1_, h2_, h3_⟩
          have n0_ : Aside0 (w38.heap[gb702]? = some (.cells #[.int .i64 a0_0, .int .i64 a0_1] 35 (0, 0))) := ⟨h0_⟩
          have n1_ : Aside0 (w38.heap[gb703]? = some (.cells #[.int .i64 a1_0, .int .i64 a1_1] 35 (0, 0))) := ⟨h1_⟩
          have n2_ : Aside0 (w38.heap[gb704]? = some (.cells #[.int .i64 0, .int .i64 0] 35 (0, 0))) := ⟨h2_⟩
          have n3_ : Aside0 (Below w.heap.size w w38) := ⟨h3_⟩
          clear BK702
          clear BK703
          clear BK704
          clear HB
          clear h0_ h1_ h2_ h3_
          have BK702 := n0_
          have BK703 := n1_
          have BK704 := n2_
          have HB := n3_
          clear n0_ n1_ n2_ n3_
          have hHeld : w38.cell? ⟨gb702, 0, none⟩ = some (.int .i64 a0_0) ∧ w38.cell? ⟨gb702, 1, none⟩ = some (.int .i64 a0_1) ∧ w38.cell? ⟨gb703, 0, none⟩ = some (.int .i64 a1_0) ∧ w38.cell? ⟨gb703, 1, none⟩ = some (.int .i64 a1_1) := hS_
          refine norm_ (a' := ?_) ?_ ?_
          rotate_left
          ·simp only [putAll, Act.put, List.setIfInBounds_toArray, List.set_cons_zero, List.set_cons_succ]
           rfl
          refine two_ (i := 19) (j := 24) (Ni := some 37) (Nj := some 7) #[true, true, true, true, true, true, true, true, true, true, true, true, true, true, true, true, true, true, true, true, false, false, false, false, false, false, false] #[true, true, true, true, true, true, true, true, true, true, true, true, true, true, true, true, true, true, true, false, false, false, false, false, true, false, false] rfl rfl rfl rfl (two_of HT_.out (by kernel_rfl)) (by decide) (by decide) (fun K hK => ?_) (fun K hK => ?_)
          ·skip
           refine goes_ Try.func58 (by kernel_rfl) rfl #[.int .u64 t711, .int .u64 t712] (by rfl) rfl rfl (by (try simp only [List.map_toArray, List.map_cons, List.map_nil]); first | done | rfl | (simp only [List.length_drop, List.length_take]; rfl)) ?_
           with_reducible refine (awardingbodyref01_Product.calls t711 t712 t713 t714 _ A30.out).mono ?_
           rintro e w39 ⟨rfl, hb⟩
           refine ⟨_, rfl, ?_⟩
           have n0_ := kb BK702 hb
           have n1_ := kb BK703 hb
           have n2_ := kb BK704 hb
           have n3_ := wb HB hb
           clear BK702
           clear BK703
           clear BK704
           clear HB
           have BK702 := n0_
           have BK703 := n1_
           have BK704 := n2_
           have HB := n3_
           clear n0_ n1_ n2_ n3_
           (try clear hb)
           (try clear hb2)
           (try clear hk)
           (try clear hi)
           refine hK.out _ _ ⟨(blk_cell BK702.out 0).trans rfl, (blk_cell BK702.out 1).trans rfl, (blk_cell BK703.out 0).trans rfl, (blk_cell BK703.out 1).trans rfl⟩ (fun hHeld => ?_)
           clear hK K
           refine norm_ (a' := ?_) ?_ ?_
           rotate_left
           ·show Act.put _ (some 37) _ = _
            simp only [Act.put, List.setIfInBounds_toArray, List.set_cons_zero, List.set_cons_succ, i64_w, i32_w]
            rfl
           exact norm_ (by first | (simp only [putAll, Act.put, List.setIfInBounds_toArray, List.set_cons_zero, List.set_cons_succ]; done) | (simp only [putAll, Act.put, List.setIfInBounds_toArray, List.set_cons_zero, List.set_cons_succ]; rfl)) (hJ5_8_9_15_18_19 () _ ⟨hHeld, (bq BK702), (bq BK703), (bq BK704), (bw HB)⟩)
          ·skip
           refine box_step ?hg (N := 7) ?hd (cs := #[.int .u64 0, .int .u64 0]) (t := 61) ?hr ?_; (case hd => rfl); (case hg => rfl); (case hr => first | (go_simp; done) | (go_simp; rfl))
           intro gb718 hg w39 hbox hb
           have n0_ := kb BK702 hb
           have n1_ := kb BK703 hb
           have n2_ := kb BK704 hb
           have n3_ := wb HB hb
           have n4_ := Aside0.mk (hbox)
           have n5_ := gs HB hg
           have n6_ := gs HB hg
           have n7_ := nl BK702 hg
           have n8_ := nr BK702 hg
           have n9_ := nl BK703 hg
           have n10_ := nr BK703 hg
           have n11_ := nl BK704 hg
           have n12_ := nr BK704 hg
           clear BK702
           clear BK703
           clear BK704
           clear HB
           have BK702 := n0_
           have BK703 := n1_
           have BK704 := n2_
           have HB := n3_
           have BK718 := n4_
           have GW718 := n5_
           have GE718 := n6_
           have NB702_718 := n7_
           have NB718_702 := n8_
           have NB703_718 := n9_
           have NB718_703 := n10_
           have NB704_718 := n11_
           have NB718_704 := n12_
           clear n0_ n1_ n2_ n3_ n4_ n5_ n6_ n7_ n8_ n9_ n10_ n11_ n12_
           clear hb hbox hg
           refine hK.out _ _ ⟨(blk_cell BK702.out 0).trans rfl, (blk_cell BK702.out 1).trans rfl, (blk_cell BK703.out 0).trans rfl, (blk_cell BK703.out 1).trans rfl⟩ (fun hHeld => ?_)
           clear hK K
           refine norm_ (a' := ?_) ?_ ?_
           rotate_left
           ·show Act.put _ (some 7) _ = _
            simp only [Act.put, List.setIfInBounds_toArray, List.set_cons_zero, List.set_cons_succ, i64_w, i32_w]
            rfl
           exact norm_ (by first | (simp only [putAll, Act.put, List.setIfInBounds_toArray, List.set_cons_zero, List.set_cons_succ]; done) | (simp only [putAll, Act.put, List.setIfInBounds_toArray, List.set_cons_zero, List.set_cons_succ]; rfl)) (hJ5_8_9_15_18_24 (gb718) _ ⟨hHeld, (bq BK702), (bq BK703), (bq BK704), (bq BK718), GW718.out, GE718.out, NB702_718.out, NB718_702.out, NB703_718.out, NB718_703.out, NB704_718.out, NB718_704.out, (bw HB)⟩)
        ·skip
         rintro gb718 w39 ⟨hS_, h0_, h1_, h2_, h3_, h4_, h5_, h6_, h7_, h8_, h9_, h10_, h11_, h12_⟩
         have n0_ : Aside0 (w39.heap[gb702]? = some (.cells #[.int .i64 a0_0, .int .i64 a0_1] 35 (0, 0))) := ⟨h0_⟩
         have n1_ : Aside0 (w39.heap[gb703]? = some (.cells #[.int .i64 a1_0, .int .i64 a1_1] 35 (0, 0))) := ⟨h1_⟩
         have n2_ : Aside0 (w39.heap[gb704]? = some (.cells #[.int .i64 0, .int .i64 0] 35 (0, 0))) := ⟨h2_⟩
         have n3_ : Aside0 (w39.heap[gb718]? = some (.cells #[.int .u64 0, .int .u64 0] 61 (0, 0))) := ⟨h3_⟩
         have n4_ : Aside0 (w.heap.size ≤ gb718) := ⟨h4_⟩
         have n5_ : Aside0 (w.heap.size ≤ gb718) := ⟨h5_⟩
         have n6_ : Aside0 (gb702 ≠ gb718) := ⟨h6_⟩
         have n7_ : Aside0 (gb718 ≠ gb702) := ⟨h7_⟩
         have n8_ : Aside0 (gb703 ≠ gb718) := ⟨h8_⟩
         have n9_ : Aside0 (gb718 ≠ gb703) := ⟨h9_⟩
         have n10_ : Aside0 (gb704 ≠ gb718) := ⟨h10_⟩
         have n11_ : Aside0 (gb718 ≠ gb704) := ⟨h11_⟩
         have n12_ : Aside0 (Below w.heap.size w w39) := ⟨h12_⟩
         clear BK702
         clear BK703
         clear BK704
         clear HB
         clear h0_ h1_ h2_ h3_ h4_ h5_ h6_ h7_ h8_ h9_ h10_ h11_ h12_
         have BK702 := n0_
         have BK703 := n1_
         have BK704 := n2_
         have BK718 := n3_
         have GW718 := n4_
         have GE718 := n5_
         have NB702_718 := n6_
         have NB718_702 := n7_
         have NB703_718 := n8_
         have NB718_703 := n9_
         have NB704_718 := n10_
         have NB718_704 := n11_
         have HB := n12_
         clear n0_ n1_ n2_ n3_ n4_ n5_ n6_ n7_ n8_ n9_ n10_ n11_ n12_
         have hHeld : w39.cell? ⟨gb702, 0, none⟩ = some (.int .i64 a0_0) ∧ w39.cell? ⟨gb702, 1, none⟩ = some (.int .i64 a0_1) ∧ w39.cell? ⟨gb703, 0, none⟩ = some (.int .i64 a1_0) ∧ w39.cell? ⟨gb703, 1, none⟩ = some (.int .i64 a1_1) := hS_
         refine norm_ (a' := ?_) ?_ ?_
         rotate_left
         ·simp only [putAll, Act.put, List.setIfInBounds_toArray, List.set_cons_zero, List.set_cons_succ]
          rfl
         refine one_ (i := 19) (N := some 37) #[true, true, true, true, true, true, true, true, true, true, true, true, true, true, true, true, true, true, true, true, false, false, false, false, true, false, false] rfl rfl (one_of HT_.out (by kernel_rfl)) (by decide) (fun K hK => ?_)
         refine goes_ Try.func58 (by kernel_rfl) rfl #[.int .u64 t711, .int .u64 t712] (by rfl) rfl rfl (by (try simp only [List.map_toArray, List.map_cons, List.map_nil]); first | done | rfl | (simp only [List.length_drop, List.length_take]; rfl)) ?_
         with_reducible refine (awardingbodyref01_Product.calls t711 t712 t713 t714 _ A30.out).mono ?_
         rintro e w40 ⟨rfl, hb⟩
         refine ⟨_, rfl, ?_⟩
         have n0_ := kb BK702 hb
         have n1_ := kb BK703 hb
         have n2_ := kb BK704 hb
         have n3_ := kb BK718 hb
         have n4_ := wb HB hb
         clear BK702
         clear BK703
         clear BK704
         clear BK718
         clear HB
         have BK702 := n0_
         have BK703 := n1_
         have BK704 := n2_
         have BK718 := n3_
         have HB := n4_
         clear n0_ n1_ n2_ n3_ n4_
         (try clear hb)
         (try clear hb2)
         (try clear hk)
         (try clear hi)
         refine hK.out _ _ ⟨(blk_cell BK702.out 0).trans rfl, (blk_cell BK702.out 1).trans rfl, (blk_cell BK703.out 0).trans rfl, (blk_cell BK703.out 1).trans rfl⟩ (fun hHeld => ?_)
         clear hK K
         refine norm_ (a' := ?_) ?_ ?_
         rotate_left
         ·show Act.put _ (some 37) _ = _
          simp only [Act.put, List.setIfInBounds_toArray, List.set_cons_zero, List.set_cons_succ, i64_w, i32_w]
          rfl
         exact norm_ (by first | (simp only [putAll, Act.put, List.setIfInBounds_toArray, List.set_cons_zero, List.set_cons_succ]; done) | (simp only [putAll, Act.put, List.setIfInBounds_toArray, List.set_cons_zero, List.set_cons_succ]; rfl)) (hJ5_8_9_15_18_19_24 (gb718) _ ⟨hHeld, (bq BK702), (bq BK703), (bq BK704), (bq BK718), GW718.out, GE718.out, NB702_718.out, NB718_702.out, NB703_718.out, NB718_703.out, NB704_718.out, NB718_704.out, (bw HB)⟩)
       ·skip
        rintro _ w39 ⟨hS_, h0_, h1_, h2_, h3_⟩
        have n0_ : Aside0 (w39.heap[gb702]? = some (.cells #[.int .i64 a0_0, .int .i64 a0_1] 35 (0, 0))) := ⟨h0_⟩
        have n1_ : Aside0 (w39.heap[gb703]? = some (.cells #[.int .i64 a1_0, .int .i64 a1_1] 35 (0, 0))) := ⟨h1_⟩
        have n2_ : Aside0 (w39.heap[gb704]? = some (.cells #[.int .i64 0, .int .i64 0] 35 (0, 0))) := ⟨h2_⟩
        have n3_ : Aside0 (Below w.heap.size w w39) := ⟨h3_⟩
        clear BK702
        clear BK703
        clear BK704
        clear HB
        clear h0_ h1_ h2_ h3_
        have BK702 := n0_
        have BK703 := n1_
        have BK704 := n2_
        have HB := n3_
        clear n0_ n1_ n2_ n3_
        have hHeld : w39.cell? ⟨gb702, 0, none⟩ = some (.int .i64 a0_0) ∧ w39.cell? ⟨gb702, 1, none⟩ = some (.int .i64 a0_1) ∧ w39.cell? ⟨gb703, 0, none⟩ = some (.int .i64 a1_0) ∧ w39.cell? ⟨gb703, 1, none⟩ = some (.int .i64 a1_1) := hS_
        refine norm_ (a' := ?_) ?_ ?_
        rotate_left
        ·simp only [putAll, Act.put, List.setIfInBounds_toArray, List.set_cons_zero, List.set_cons_succ]
         rfl
        refine two_ (i := 20) (j := 24) (Ni := some 38) (Nj := some 7) #[true, true, true, true, true, true, true, true, true, true, true, true, true, true, true, true, true, true, true, true, true, false, false, false, false, false, false] #[true, true, true, true, true, true, true, true, true, true, true, true, true, true, true, true, true, true, true, true, false, false, false, false, true, false, false] rfl rfl rfl rfl (two_of HT_.out (by kernel_rfl)) (by decide) (by decide) (fun K hK => ?_) (fun K hK => ?_)
        ·skip
         refine goes_ Try.func60 (by kernel_rfl) rfl #[.bool (decide (a0_0 < 0)), .agg #[.int .u64 t709, .int .u64 t710], .bool (decide (a1_0 < 0)), .agg #[.int .u64 t713, .int .u64 t714]] (by rfl) rfl rfl (by (try simp only [List.map_toArray, List.map_cons, List.map_nil]); first | done | rfl | (simp only [List.length_drop, List.length_take]; rfl)) ?_
         with_reducible refine (awardingbodyref01_total.calls kj2 (decide (a0_0 < 0)) t709 t710 (decide (a1_0 < 0)) t713 t714 t715 t716 t717 _ A31.out).mono ?_
         rintro e w40 ⟨rfl, hb⟩
         refine ⟨_, rfl, ?_⟩
         have n0_ := kb BK702 hb
         have n1_ := kb BK703 hb
         have n2_ := kb BK704 hb
         have n3_ := wb HB hb
         clear BK702
         clear BK703
         clear BK704
         clear HB
         have BK702 := n0_
         have BK703 := n1_
         have BK704 := n2_
         have HB := n3_
         clear n0_ n1_ n2_ n3_
         (try clear hb)
         (try clear hb2)
         (try clear hk)
         (try clear hi)
         refine hK.out _ _ ⟨(blk_cell BK702.out 0).trans rfl, (blk_cell BK702.out 1).trans rfl, (blk_cell BK703.out 0).trans rfl, (blk_cell BK703.out 1).trans rfl⟩ (fun hHeld => ?_)
         clear hK K
         refine norm_ (a' := ?_) ?_ ?_
         rotate_left
         ·show Act.put _ (some 38) _ = _
          simp only [Act.put, List.setIfInBounds_toArray, List.set_cons_zero, List.set_cons_succ, i64_w, i32_w]
          rfl
         refine pure_ (i := 21) (N := some 17) (v := ?_) (a' := ?_) #[true, true, true, true, true, true, true, true, true, true, true, true, true, true, true, true, true, true, true, true, true, true, false, false, false, false, false] rfl rfl (any_of HT_.out (by kernel_rfl)) (fun _ _ _ h => h) (Or.inl ⟨by rfl, ?_⟩) ?_ ?_
         rotate_left
         ·intro w'
          go_simp
          with_reducible rfl
         rotate_left
         ·simp only [Act.put, List.setIfInBounds_toArray, List.set_cons_zero, List.set_cons_succ, i64_w, i32_w]
          rfl
         refine pure_ (i := 22) (N := some 39) (v := ?_) (a' := ?_) #[true, true, true, true, true, true, true, true, true, true, true, true, true, true, true, true, true, true, true, true, true, true, true, false, false, false, false] rfl rfl (any_of HT_.out (by kernel_rfl)) (fun _ _ _ h => h) (Or.inl ⟨by rfl, ?_⟩) ?_ ?_
         rotate_left
         ·intro w'
          go_simp
          with_reducible rfl
         rotate_left
         ·simp only [Act.put, List.setIfInBounds_toArray, List.set_cons_zero, List.set_cons_succ, i64_w, i32_w]
          rfl
         refine pure_ (i := 23) (N := some 40) (v := ?_) (a' := ?_) #[true, true, true, true, true, true, true, true, true, true, true, true, true, true, true, true, true, true, true, true, true, true, true, true, false, false, false] rfl rfl (any_of HT_.out (by kernel_rfl)) (fun _ _ _ h => h) (Or.inl ⟨by rfl, ?_⟩) ?_ ?_
         rotate_left
         ·intro w'
          go_simp
          with_reducible rfl
         rotate_left
         ·simp only [Act.put, List.setIfInBounds_toArray, List.set_cons_zero, List.set_cons_succ, i64_w, i32_w]
          rfl
         exact norm_ (by first | (simp only [putAll, Act.put, List.setIfInBounds_toArray, List.set_cons_zero, List.set_cons_succ]; done) | (simp only [putAll, Act.put, List.setIfInBounds_toArray, List.set_cons_zero, List.set_cons_succ]; rfl)) (hJ5_8_9_15_18_19_20 () _ ⟨hHeld, (bq BK702), (bq BK703), (bq BK704), (bw HB)⟩)
        ·skip
         refine box_step ?hg (N := 7) ?hd (cs := #[.int .u64 0, .int .u64 0]) (t := 61) ?hr ?_; (case hd => rfl); (case hg => rfl); (case hr => first | (go_simp; done) | (go_simp; rfl))
         intro gb718 hg w40 hbox hb
         have n0_ := kb BK702 hb
         have n1_ := kb BK703 hb
         have n2_ := kb BK704 hb
         have n3_ := wb HB hb
         have n4_ := Aside0.mk (hbox)
         have n5_ := gs HB hg
         have n6_ := gs HB hg
         have n7_ := nl BK702 hg
         have n8_ := nr BK702 hg
         have n9_ := nl BK703 hg
         have n10_ := nr BK703 hg
         have n11_ := nl BK704 hg
         have n12_ := nr BK704 hg
         clear BK702
         clear BK703
         clear BK704
         clear HB
         have BK702 := n0_
         have BK703 := n1_
         have BK704 := n2_
         have HB := n3_
         have BK718 := n4_
         have GW718 := n5_
         have GE718 := n6_
         have NB702_718 := n7_
         have NB718_702 := n8_
         have NB703_718 := n9_
         have NB718_703 := n10_
         have NB704_718 := n11_
         have NB718_704 := n12_
         clear n0_ n1_ n2_ n3_ n4_ n5_ n6_ n7_ n8_ n9_ n10_ n11_ n12_
         clear hb hbox hg
         refine hK.out _ _ ⟨(blk_cell BK702.out 0).trans rfl, (blk_cell BK702.out 1).trans rfl, (blk_cell BK703.out 0).trans rfl, (blk_cell BK703.out 1).trans rfl⟩ (fun hHeld => ?_)
         clear hK K
         refine norm_ (a' := ?_) ?_ ?_
         rotate_left
         ·show Act.put _ (some 7) _ = _
          simp only [Act.put, List.setIfInBounds_toArray, List.set_cons_zero, List.set_cons_succ, i64_w, i32_w]
          rfl
         exact norm_ (by first | (simp only [putAll, Act.put, List.setIfInBounds_toArray, List.set_cons_zero, List.set_cons_succ]; done) | (simp only [putAll, Act.put, List.setIfInBounds_toArray, List.set_cons_zero, List.set_cons_succ]; rfl)) (hJ5_8_9_15_18_19_24 (gb718) _ ⟨hHeld, (bq BK702), (bq BK703), (bq BK704), (bq BK718), GW718.out, GE718.out, NB702_718.out, NB718_702.out, NB703_718.out, NB718_703.out, NB704_718.out, NB718_704.out, (bw HB)⟩)
      ·skip
       rintro gb718 w40 ⟨hS_, h0_, h1_, h2_, h3_, h4_, h5_, h6_, h7_, h8_, h9_, h10_, h11_, h12_⟩
       have n0_ : Aside0 (w40.heap[gb702]? = some (.cells #[.int .i64 a0_0, .int .i64 a0_1] 35 (0, 0))) := ⟨h0_⟩
       have n1_ : Aside0 (w40.heap[gb703]? = some (.cells #[.int .i64 a1_0, .int .i64 a1_1] 35 (0, 0))) := ⟨h1_⟩
       have n2_ : Aside0 (w40.heap[gb704]? = some (.cells #[.int .i64 0, .int .i64 0] 35 (0, 0))) := ⟨h2_⟩
       have n3_ : Aside0 (w40.heap[gb718]? = some (.cells #[.int .u64 0, .int .u64 0] 61 (0, 0))) := ⟨h3_⟩
       have n4_ : Aside0 (w.heap.size ≤ gb718) := ⟨h4_⟩
       have n5_ : Aside0 (w.heap.size ≤ gb718) := ⟨h5_⟩
       have n6_ : Aside0 (gb702 ≠ gb718) := ⟨h6_⟩
       have n7_ : Aside0 (gb718 ≠ gb702) := ⟨h7_⟩
       have n8_ : Aside0 (gb703 ≠ gb718) := ⟨h8_⟩
       have n9_ : Aside0 (gb718 ≠ gb703) := ⟨h9_⟩
       have n10_ : Aside0 (gb704 ≠ gb718) := ⟨h10_⟩
       have n11_ : Aside0 (gb718 ≠ gb704) := ⟨h11_⟩
       have n12_ : Aside0 (Below w.heap.size w w40) := ⟨h12_⟩
       clear BK702
       clear BK703
       clear BK704
       clear HB
       clear h0_ h1_ h2_ h3_ h4_ h5_ h6_ h7_ h8_ h9_ h10_ h11_ h12_
       have BK702 := n0_
       have BK703 := n1_
       have BK704 := n2_
       have BK718 := n3_
       have GW718 := n4_
       have GE718 := n5_
       have NB702_718 := n6_
       have NB718_702 := n7_
       have NB703_718 := n8_
       have NB718_703 := n9_
       have NB704_718 := n10_
       have NB718_704 := n11_
       have HB := n12_
       clear n0_ n1_ n2_ n3_ n4_ n5_ n6_ n7_ n8_ n9_ n10_ n11_ n12_
       have hHeld : w40.cell? ⟨gb702, 0, none⟩ = some (.int .i64 a0_0) ∧ w40.cell? ⟨gb702, 1, none⟩ = some (.int .i64 a0_1) ∧ w40.cell? ⟨gb703, 0, none⟩ = some (.int .i64 a1_0) ∧ w40.cell? ⟨gb703, 1, none⟩ = some (.int .i64 a1_1) := hS_
       refine norm_ (a' := ?_) ?_ ?_
       rotate_left
       ·simp only [putAll, Act.put, List.setIfInBounds_toArray, List.set_cons_zero, List.set_cons_succ]
        rfl
       refine one_ (i := 20) (N := some 38) #[true, true, true, true, true, true, true, true, true, true, true, true, true, true, true, true, true, true, true, true, true, false, false, false, true, false, false] rfl rfl (one_of HT_.out (by kernel_rfl)) (by decide) (fun K hK => ?_)
       refine goes_ Try.func60 (by kernel_rfl) rfl #[.bool (decide (a0_0 < 0)), .agg #[.int .u64 t709, .int .u64 t710], .bool (decide (a1_0 < 0)), .agg #[.int .u64 t713, .int .u64 t714]] (by rfl) rfl rfl (by (try simp only [List.map_toArray, List.map_cons, List.map_nil]); first | done | rfl | (simp only [List.length_drop, List.length_take]; rfl)) ?_
       with_reducible refine (awardingbodyref01_total.calls kj2 (decide (a0_0 < 0)) t709 t710 (decide (a1_0 < 0)) t713 t714 t715 t716 t717 _ A31.out).mono ?_
       rintro e w41 ⟨rfl, hb⟩
       refine ⟨_, rfl, ?_⟩
       have n0_ := kb BK702 hb
       have n1_ := kb BK703 hb
       have n2_ := kb BK704 hb
       have n3_ := kb BK718 hb
       have n4_ := wb HB hb
       clear BK702
       clear BK703
       clear BK704
       clear BK718
       clear HB
       have BK702 := n0_
       have BK703 := n1_
       have BK704 := n2_
       have BK718 := n3_
       have HB := n4_
       clear n0_ n1_ n2_ n3_ n4_
       (try clear hb)
       (try clear hb2)
       (try clear hk)
       (try clear hi)
       refine hK.out _ _ ⟨(blk_cell BK702.out 0).trans rfl, (blk_cell BK702.out 1).trans rfl, (blk_cell BK703.out 0).trans rfl, (blk_cell BK703.out 1).trans rfl⟩ (fun hHeld => ?_)
       clear hK K
       refine norm_ (a' := ?_) ?_ ?_
       rotate_left
       ·show Act.put _ (some 38) _ = _
        simp only [Act.put, List.setIfInBounds_toArray, List.set_cons_zero, List.set_cons_succ, i64_w, i32_w]
        rfl
       refine pure_ (i := 21) (N := some 17) (v := ?_) (a' := ?_) #[true, true, true, true, true, true, true, true, true, true, true, true, true, true, true, true, true, true, true, true, true, true, false, false, true, false, false] rfl rfl (any_of HT_.out (by kernel_rfl)) (fun _ _ _ h => h) (Or.inl ⟨by rfl, ?_⟩) ?_ ?_
       rotate_left
       ·intro w'
        go_simp
        with_reducible rfl
       rotate_left
       ·simp only [Act.put, List.setIfInBounds_toArray, List.set_cons_zero, List.set_cons_succ, i64_w, i32_w]
        rfl
       refine pure_ (i := 22) (N := some 39) (v := ?_) (a' := ?_) #[true, true, true, true, true, true, true, true, true, true, true, true, true, true, true, true, true, true, true, true, true, true, true, false, true, false, false] rfl rfl (any_of HT_.out (by kernel_rfl)) (fun _ _ _ h => h) (Or.inl ⟨by rfl, ?_⟩) ?_ ?_
       rotate_left
       ·intro w'
        go_simp
        with_reducible rfl
       rotate_left
       ·simp only [Act.put, List.setIfInBounds_toArray, List.set_cons_zero, List.set_cons_succ, i64_w, i32_w]
        rfl
       refine pure_ (i := 23) (N := some 40) (v := ?_) (a' := ?_) #[true, true, true, true, true, true, true, true, true, true, true, true, true, true, true, true, true, true, true, true, true, true, true, true, true, false, false] rfl rfl (any_of HT_.out (by kernel_rfl)) (fun _ _ _ h => h) (Or.inl ⟨by rfl, ?_⟩) ?_ ?_
       rotate_left
       ·intro w'
        go_simp
        with_reducible rfl
       rotate_left
       ·simp only [Act.put, List.setIfInBounds_toArray, List.set_cons_zero, List.set_cons_succ, i64_w, i32_w]
        rfl
       exact norm_ (by first | (simp only [putAll, Act.put, List.setIfInBounds_toArray, List.set_cons_zero, List.set_cons_succ]; done) | (simp only [putAll, Act.put, List.setIfInBounds_toArray, List.set_cons_zero, List.set_cons_succ]; rfl)) (hJ5_8_9_15_18_19_20_24 (gb718) _ ⟨hHeld, (bq BK702), (bq BK703), (bq BK704), (bq BK718), GW718.out, GE718.out, NB702_718.out, NB718_702.out, NB703_718.out, NB718_703.out, NB704_718.out, NB718_704.out, (bw HB)⟩)
     ·skip
      rintro _ w40 ⟨hS_, h0_, h1_, h2_, h3_⟩
      have n0_ : Aside0 (w40.heap[gb702]? = some (.cells #[.int .i64 a0_0, .int .i64 a0_1] 35 (0, 0))) := ⟨h0_⟩
      have n1_ : Aside0 (w40.heap[gb703]? = some (.cells #[.int .i64 a1_0, .int .i64 a1_1] 35 (0, 0))) := ⟨h1_⟩
      have n2_ : Aside0 (w40.heap[gb704]? = some (.cells #[.int .i64 0, .int .i64 0] 35 (0, 0))) := ⟨h2_⟩
      have n3_ : Aside0 (Below w.heap.size w w40) := ⟨h3_⟩
      clear BK702
      clear BK703
      clear BK704
      clear HB
      clear h0_ h1_ h2_ h3_
      have BK702 := n0_
      have BK703 := n1_
      have BK704 := n2_
      have HB := n3_
      clear n0_ n1_ n2_ n3_
      have hHeld : w40.cell? ⟨gb702, 0, none⟩ = some (.int .i64 a0_0) ∧ w40.cell? ⟨gb702, 1, none⟩ = some (.int .i64 a0_1) ∧ w40.cell? ⟨gb703, 0, none⟩ = some (.int .i64 a1_0) ∧ w40.cell? ⟨gb703, 1, none⟩ = some (.int .i64 a1_1) := hS_
      refine norm_ (a' := ?_) ?_ ?_
      rotate_left
      ·simp only [putAll, Act.put, List.setIfInBounds_toArray, List.set_cons_zero, List.set_cons_succ]
       rfl
      refine one_ (i := 24) (N := some 7) #[true, true, true, true, true, true, true, true, true, true, true, true, true, true, true, true, true, true, true, true, true, true, true, true, true, false, false] rfl rfl (one_of HT_.out (by kernel_rfl)) (by decide) (fun K hK => ?_)
      refine box_step ?hg (N := 7) ?hd (cs := #[.int .u64 0, .int .u64 0]) (t := 61) ?hr ?_; (case hd => rfl); (case hg => rfl); (case hr => first | (go_simp; done) | (go_simp; rfl))
      intro gb718 hg w41 hbox hb
      have n0_ := kb BK702 hb
      have n1_ := kb BK703 hb
      have n2_ := kb BK704 hb
      have n3_ := wb HB hb
      have n4_ := Aside0.mk (hbox)
      have n5_ := gs HB hg
      have n6_ := gs HB hg
      have n7_ := nl BK702 hg
      have n8_ := nr BK702 hg
      have n9_ := nl BK703 hg
      have n10_ := nr BK703 hg
      have n11_ := nl BK704 hg
      have n12_ := nr BK704 hg
      clear BK702
      clear BK703
      clear BK704
      clear HB
      have BK702 := n0_
      have BK703 := n1_
      have BK704 := n2_
      have HB := n3_
      have BK718 := n4_
      have GW718 := n5_
      have GE718 := n6_
      have NB702_718 := n7_
      have NB718_702 := n8_
      have NB703_718 := n9_
      have NB718_703 := n10_
      have NB704_718 := n11_
      have NB718_704 := n12_
      clear n0_ n1_ n2_ n3_ n4_ n5_ n6_ n7_ n8_ n9_ n10_ n11_ n12_
      clear hb hbox hg
      refine hK.out _ _ ⟨(blk_cell BK702.out 0).trans rfl, (blk_cell BK702.out 1).trans rfl, (blk_cell BK703.out 0).trans rfl, (blk_cell BK703.out 1).trans rfl⟩ (fun hHeld => ?_)
      clear hK K
      refine norm_ (a' := ?_) ?_ ?_
      rotate_left
      ·show Act.put _ (some 7) _ = _
       simp only [Act.put, List.setIfInBounds_toArray, List.set_cons_zero, List.set_cons_succ, i64_w, i32_w]
       rfl
      exact norm_ (by first | (simp only [putAll, Act.put, List.setIfInBounds_toArray, List.set_cons_zero, List.set_cons_succ]; done) | (simp only [putAll, Act.put, List.setIfInBounds_toArray, List.set_cons_zero, List.set_cons_succ]; rfl)) (hJ5_8_9_15_18_19_20_24 (gb718) _ ⟨hHeld, (bq BK702), (bq BK703), (bq BK704), (bq BK718), GW718.out, GE718.out, NB702_718.out, NB718_702.out, NB703_718.out, NB718_703.out, NB704_718.out, NB718_704.out, (bw HB)⟩)
    rintro gb718 w41 ⟨hS_, h0_, h1_, h2_, h3_, h4_, h5_, h6_, h7_, h8_, h9_, h10_, h11_, h12_⟩
    have n0_ : Aside0 (w41.heap[gb702]? = some (.cells #[.int .i64 a0_0, .int .i64 a0_1] 35 (0, 0))) := ⟨h0_⟩
    have n1_ : Aside0 (w41.heap[gb703]? = some (.cells #[.int .i64 a1_0, .int .i64 a1_1] 35 (0, 0))) := ⟨h1_⟩
    have n2_ : Aside0 (w41.heap[gb704]? = some (.cells #[.int .i64 0, .int .i64 0] 35 (0, 0))) := ⟨h2_⟩
    have n3_ : Aside0 (w41.heap[gb718]? = some (.cells #[.int .u64 0, .int .u64 0] 61 (0, 0))) := ⟨h3_⟩
    have n4_ : Aside0 (w.heap.size ≤ gb718) := ⟨h4_⟩
    have n5_ : Aside0 (w.heap.size ≤ gb718) := ⟨h5_⟩
    have n6_ : Aside0 (gb702 ≠ gb718) := ⟨h6_⟩
    have n7_ : Aside0 (gb718 ≠ gb702) := ⟨h7_⟩
    have n8_ : Aside0 (gb703 ≠ gb718) := ⟨h8_⟩
    have n9_ : Aside0 (gb718 ≠ gb703) := ⟨h9_⟩
    have n10_ : Aside0 (gb704 ≠ gb718) := ⟨h10_⟩
    have n11_ : Aside0 (gb718 ≠ gb704) := ⟨h11_⟩
    have n12_ : Aside0 (Below w.heap.size w w41) := ⟨h12_⟩
    clear BK702
    clear BK703
    clear BK704
    clear HB
    clear h0_ h1_ h2_ h3_ h4_ h5_ h6_ h7_ h8_ h9_ h10_ h11_ h12_
    have BK702 := n0_
    have BK703 := n1_
    have BK704 := n2_
    have BK718 := n3_
    have GW718 := n4_
    have GE718 := n5_
    have NB702_718 := n6_
    have NB718_702 := n7_
    have NB703_718 := n8_
    have NB718_703 := n9_
    have NB704_718 := n10_
    have NB718_704 := n11_
    have HB := n12_
    clear n0_ n1_ n2_ n3_ n4_ n5_ n6_ n7_ n8_ n9_ n10_ n11_ n12_
    have hHeld : w41.cell? ⟨gb702, 0, none⟩ = some (.int .i64 a0_0) ∧ w41.cell? ⟨gb702, 1, none⟩ = some (.int .i64 a0_1) ∧ w41.cell? ⟨gb703, 0, none⟩ = some (.int .i64 a1_0) ∧ w41.cell? ⟨gb703, 1, none⟩ = some (.int .i64 a1_1) := hS_
    refine norm_ (a' := ?_) ?_ ?_
    rotate_left
    ·simp only [putAll, Act.put, List.setIfInBounds_toArray, List.set_cons_zero, List.set_cons_succ]
     rfl
    refine pure_ (i := 25) (N := some 6) (v := ?_) (a' := ?_) #[true, true, true, true, true, true, true, true, true, true, true, true, true, true, true, true, true, true, true, true, true, true, true, true, true, true, false] rfl rfl (any_of HT_.out (by kernel_rfl)) (fun _ _ _ h => h) (Or.inl ⟨by rfl, ?_⟩) ?_ ?_
    rotate_left
    ·intro w'
     go_simp
     with_reducible rfl
    rotate_left
    ·simp only [Act.put, List.setIfInBounds_toArray, List.set_cons_zero, List.set_cons_succ, i64_w, i32_w]
     rfl
    refine one_ (i := 26) (N := none) #[true, true, true, true, true, true, true, true, true, true, true, true, true, true, true, true, true, true, true, true, true, true, true, true, true, true, true] rfl rfl (one_of HT_.out (by kernel_rfl)) (by decide) (fun K hK => ?_)
    have hs42 : w41.cell? ⟨gb718, 0, none⟩ = some (.int .u64 0) := (blk_cell BK718.out 0).trans rfl
    have hfs42 := blk_frozen BK718.out 0
    have hns42_0 := NB702_718.out
    have hns42_1 := NB703_718.out
    have hns42_2 := NB704_718.out
    have hms42_0 := NB718_702.out
    have hms42_1 := NB718_703.out
    have hms42_2 := NB718_704.out
    have hs43 : w41.cell? ⟨gb718, 1, none⟩ = some (.int .u64 0) := (blk_cell BK718.out 1).trans rfl
    have hfs43 := blk_frozen BK718.out 1
    have hns43_0 := NB702_718.out
    have hns43_1 := NB703_718.out
    have hns43_2 := NB704_718.out
    have hms43_0 := NB718_702.out
    have hms43_1 := NB718_703.out
    have hms43_2 := NB718_704.out
    refine skip_ (w1 := ?_) (by rfl) rfl ?_ ?_
    rotate_left
    ·go_simp
     rfl
    refine hK.out _ _ ⟨((cell_far (p := ⟨gb718, _, none⟩) NB702_718.out _).trans (((cell_far (p := ⟨gb718, _, none⟩) NB702_718.out _).trans (hHeld.1)))), ((cell_far (p := ⟨gb718, _, none⟩) NB702_718.out _).trans (((cell_far (p := ⟨gb718, _, none⟩) NB702_718.out _).trans (hHeld.2.1)))), ((cell_far (p := ⟨gb718, _, none⟩) NB703_718.out _).trans (((cell_far (p := ⟨gb718, _, none⟩) NB703_718.out _).trans (hHeld.2.2.1)))), ((cell_far (p := ⟨gb718, _, none⟩) NB703_718.out _).trans (((cell_far (p := ⟨gb718, _, none⟩) NB703_718.out _).trans (hHeld.2.2.2))))⟩ (fun hHeld => ?_)
    clear hK K
    refine done_ (done_of HT_.out (by kernel_rfl)) ?_
    try go_wp2
    have n0_ : Aside0 (((w41.setCell ⟨gb718, 0, none⟩ (.int .u64 t716)).setCell ⟨gb718, 1, none⟩ (.int .u64 t717)).heap[gb702]? = some (.cells #[.int .i64 a0_0, .int .i64 a0_1] 35 (0, 0))) := ⟨bq BK702⟩
    have n1_ : Aside0 (((w41.setCell ⟨gb718, 0, none⟩ (.int .u64 t716)).setCell ⟨gb718, 1, none⟩ (.int .u64 t717)).heap[gb703]? = some (.cells #[.int .i64 a1_0, .int .i64 a1_1] 35 (0, 0))) := ⟨bq BK703⟩
    have n2_ : Aside0 (((w41.setCell ⟨gb718, 0, none⟩ (.int .u64 t716)).setCell ⟨gb718, 1, none⟩ (.int .u64 t717)).heap[gb704]? = some (.cells #[.int .i64 0, .int .i64 0] 35 (0, 0))) := ⟨bq BK704⟩
    have n3_ : Aside0 (((w41.setCell ⟨gb718, 0, none⟩ (.int .u64 t716)).setCell ⟨gb718, 1, none⟩ (.int .u64 t717)).heap[gb718]? = some (.cells #[.int .u64 t716, .int .u64 t717] 61 (0, 0))) := ⟨by refine pe ?_; refine blk_put (cs := #[.int .u64 t716, .int .u64 0]) ?_ 1 _ rfl; refine pe ?_; refine blk_put (cs := #[.int .u64 0, .int .u64 0]) ?_ 0 _ rfl; refine pe ?_; exact BK718.out⟩
    have n4_ : Aside0 (Below w.heap.size w ((w41.setCell ⟨gb718, 0, none⟩ (.int .u64 t716)).setCell ⟨gb718, 1, none⟩ (.int .u64 t717))) := ⟨bw HB⟩
    (try clear BK702)
    (try clear BK703)
    (try clear BK704)
    (try clear BK718)
    (try clear HB)
    generalize ((w41.setCell ⟨gb718, 0, none⟩ (.int .u64 t716)).setCell ⟨gb718, 1, none⟩ (.int .u64 t717)) = w44 at n0_ n1_ n2_ n3_ n4_ ⊢
    have BK702 := n0_
    have BK703 := n1_
    have BK704 := n2_
    have BK718 := n3_
    have HB := n4_
    clear n0_ n1_ n2_ n3_ n4_
    have n0_ := Aside0.mk (blk_drew BK702.out)
    have n1_ := Aside0.mk (blk_drew BK703.out)
    have n2_ := Aside0.mk (blk_drew BK704.out)
    have n3_ := Aside0.mk (blk_drew BK718.out)
    have n4_ := Aside0.mk (below_drew1 HB.out)
    clear BK702
    clear BK703
    clear BK704
    clear BK718
    clear HB
    have BK702 := n0_
    have BK703 := n1_
    have BK704 := n2_
    have BK718 := n3_
    have HB := n4_
    clear n0_ n1_ n2_ n3_ n4_
    refine start_ (n := 14) (S := fun w' => w'.cell? ⟨gb718, 0, none⟩ = some (.int .u64 t716) ∧ w'.cell? ⟨gb718, 1, none⟩ = some (.int .u64 t717) ∧ w'.cell? ⟨gb702, 0, none⟩ = some (.int .i64 a0_0) ∧ w'.cell? ⟨gb702, 1, none⟩ = some (.int .i64 a0_1) ∧ w'.cell? ⟨gb703, 0, none⟩ = some (.int .i64 a1_0) ∧ w'.cell? ⟨gb703, 1, none⟩ = some (.int .i64 a1_1)) (ds := []) #[false, false, false, false, false, false, false, false, false, false, false, false, false, false] (by kernel_rfl) rfl rfl ⟨(blk_cell BK718.out 0).trans rfl, (blk_cell BK718.out 1).trans rfl, (blk_cell BK702.out 0).trans rfl, (blk_cell BK702.out 1).trans rfl, (blk_cell BK703.out 0).trans rfl, (blk_cell BK703.out 1).trans rfl⟩ (fun hHeld => ?_); refine with_tabW awardingbodyref01_Add.tab4 awardingbodyref01_Add.bits4 (fun HT_ HW_ => ?_)
    generalize w44.drew = w45 at BK702 BK703 BK704 BK718 HB hHeld ⊢
    refine pure_ (i := 0) (N := some 41) (v := ?_) (a' := ?_) #[true, false, false, false, false, false, false, false, false, false, false, false, false, false] rfl rfl (any_of HT_.out (by kernel_rfl)) (fun _ _ _ h => h) (Or.inl ⟨by rfl, ?_⟩) ?_ ?_
    rotate_left
    ·intro w'
     go_simp
     with_reducible rfl
    rotate_left
    ·simp only [Act.put, List.setIfInBounds_toArray, List.set_cons_zero, List.set_cons_succ, i64_w, i32_w]
     rfl
    refine pure_ (i := 2) (N := some 43) (v := ?_) (a' := ?_) #[true, false, true, false, false, false, false, false, false, false, false, false, false, false] rfl rfl (any_of HT_.out (by kernel_rfl)) (fun _ _ _ h => h) (Or.inl ⟨by rfl, ?_⟩) ?_ ?_
    rotate_left
    ·intro w'
     go_simp
     with_reducible rfl
    rotate_left
    ·simp only [Act.put, List.setIfInBounds_toArray, List.set_cons_zero, List.set_cons_succ, i64_w, i32_w]
     rfl
    refine pure_ (i := 5) (N := some 46) (v := ?_) (a' := ?_) #[true, false, true, false, false, true, false, false, false, false, false, false, false, false] rfl rfl (any_of HT_.out (by kernel_rfl)) (fun _ _ _ h => h) (Or.inl ⟨by rfl, ?_⟩) ?_ ?_
    rotate_left
    ·intro w'
     go_simp
     with_reducible rfl
    rotate_left
    ·simp only [Act.put, List.setIfInBounds_toArray, List.set_cons_zero, List.set_cons_succ, i64_w, i32_w]
     rfl
    refine take_ (i := 1) (N := some 42) (v := ?_) (a' := ?_) #[true, true, true, false, false, true, false, false, false, false, false, false, false, false] rfl rfl (take_ofW HT_.out HW_.out (by kernel_rfl)) (fun _ _ _ h => h) (Or.inl ⟨by rfl, ?_⟩) hHeld ?_ ?_
    rotate_left
    ·rintro w' ⟨s0, s1, s2, s3, s4, s5⟩
     go_simp
     with_reducible rfl
    rotate_left
    ·simp only [Act.put, List.setIfInBounds_toArray, List.set_cons_zero, List.set_cons_succ, i64_w, i32_w]
     rfl
    refine take_ (i := 3) (N := some 44) (v := ?_) (a' := ?_) #[true, true, true, true, false, true, false, false, false, false, false, false, false, false] rfl rfl (take_ofW HT_.out HW_.out (by kernel_rfl)) (fun _ _ _ h => h) (Or.inl ⟨by rfl, ?_⟩) hHeld ?_ ?_
    rotate_left
    ·rintro w' ⟨s0, s1, s2, s3, s4, s5⟩
     go_simp
     with_reducible rfl
    rotate_left
    ·simp only [Act.put, List.setIfInBounds_toArray, List.set_cons_zero, List.set_cons_succ, i64_w, i32_w]
     rfl
    refine take_ (i := 6) (N := some 47) (v := ?_) (a' := ?_) #[true, true, true, true, false, true, true, false, false, false, false, false, false, false] rfl rfl (take_ofW HT_.out HW_.out (by kernel_rfl)) (fun _ _ _ h => h) (Or.inl ⟨by rfl, ?_⟩) hHeld ?_ ?_
    rotate_left
    ·rintro w' ⟨s0, s1, s2, s3, s4, s5⟩
     go_simp
     with_reducible rfl
    rotate_left
    ·simp only [Act.put, List.setIfInBounds_toArray, List.set_cons_zero, List.set_cons_succ, i64_w, i32_w]
     rfl
    refine one_ (i := 4) (N := some 45) #[true, true, true, true, true, true, true, false, false, false, false, false, false, false] rfl rfl (one_of HT_.out (by kernel_rfl)) (by decide) (fun K hK => ?_)
    refine goes_ Try.func51 (by kernel_rfl) rfl #[.int .i64 a0_1] (by rfl) rfl rfl (by (try simp only [List.map_toArray, List.map_cons, List.map_nil]); first | done | rfl | (simp only [List.length_drop, List.length_take]; rfl)) ?_
    with_reducible refine (awardingbodyref01_Size.calls a0_1 t719 _ A32.out).mono ?_
    rintro e w' ⟨rfl, ⟨nd, rfl⟩⟩
    refine ⟨_, rfl, ?_⟩
    refine hK.out _ _ ⟨(blk_cell BK718.out 0).trans rfl, (blk_cell BK718.out 1).trans rfl, (blk_cell BK702.out 0).trans rfl, (blk_cell BK702.out 1).trans rfl, (blk_cell BK703.out 0).trans rfl, (blk_cell BK703.out 1).trans rfl⟩ (fun hHeld => ?_)
    clear hK K
    refine norm_ (a' := ?_) ?_ ?_
    rotate_left
    ·show Act.put _ (some 45) _ = _
     simp only [Act.put, List.setIfInBounds_toArray, List.set_cons_zero, List.set_cons_succ, i64_w, i32_w]
     rfl
    refine one_ (i := 7) (N := some 48) #[true, true, true, true, true, true, true, true, false, false, false, false, false, false] rfl rfl (one_of HT_.out (by kernel_rfl)) (by decide) (fun K hK => ?_)
    refine goes_ Try.func51 (by kernel_rfl) rfl #[.int .i64 a1_1] (by rfl) rfl rfl (by (try simp only [List.map_toArray, List.map_cons, List.map_nil]); first | done | rfl | (simp only [List.length_drop, List.length_take]; rfl)) ?_
    with_reducible refine (awardingbodyref01_Size.calls a1_1 t720 _ A33.out).mono ?_
    rintro e w' ⟨rfl, ⟨nd, rfl⟩⟩
    refine ⟨_, rfl, ?_⟩
    refine hK.out _ _ ⟨(blk_cell BK718.out 0).trans rfl, (blk_cell BK718.out 1).trans rfl, (blk_cell BK702.out 0).trans rfl, (blk_cell BK702.out 1).trans rfl, (blk_cell BK703.out 0).trans rfl, (blk_cell BK703.out 1).trans rfl⟩ (fun hHeld => ?_)
    clear hK K
    refine norm_ (a' := ?_) ?_ ?_
    rotate_left
    ·show Act.put _ (some 48) _ = _
     simp only [Act.put, List.setIfInBounds_toArray, List.set_cons_zero, List.set_cons_succ, i64_w, i32_w]
     rfl
    refine one_ (i := 8) (N := some 49) #[true, true, true, true, true, true, true, true, true, false, false, false, false, false] rfl rfl (one_of HT_.out (by kernel_rfl)) (by decide) (fun K hK => ?_)
    refine goes_ Try.func58 (by kernel_rfl) rfl #[.int .u64 t719, .int .u64 t720] (by rfl) rfl rfl (by (try simp only [List.map_toArray, List.map_cons, List.map_nil]); first | done | rfl | (simp only [List.length_drop, List.length_take]; rfl)) ?_
    with_reducible refine (awardingbodyref01_Product.calls t719 t720 t721 t722 _ A34.out).mono ?_
    rintro e w46 ⟨rfl, hb⟩
    refine ⟨_, rfl, ?_⟩
    have n0_ := kb BK702 hb
    have n1_ := kb BK703 hb
    have n2_ := kb BK704 hb
    have n3_ := kb BK718 hb
    have n4_ := wb HB hb
    clear BK702
    clear BK703
    clear BK704
    clear BK718
    clear HB
    have BK702 := n0_
    have BK703 := n1_
    have BK704 := n2_
    have BK718 := n3_
    have HB := n4_
    clear n0_ n1_ n2_ n3_ n4_
    (try clear hb)
    (try clear hb2)
    (try clear hk)
    (try clear hi)
    refine hK.out _ _ ⟨(blk_cell BK718.out 0).trans rfl, (blk_cell BK718.out 1).trans rfl, (blk_cell BK702.out 0).trans rfl, (blk_cell BK702.out 1).trans rfl, (blk_cell BK703.out 0).trans rfl, (blk_cell BK703.out 1).trans rfl⟩ (fun hHeld => ?_)
    clear hK K
    refine norm_ (a' := ?_) ?_ ?_
    rotate_left
    ·show Act.put _ (some 49) _ = _
     simp only [Act.put, List.setIfInBounds_toArray, List.set_cons_zero, List.set_cons_succ, i64_w, i32_w]
     rfl
    refine one_ (i := 9) (N := some 50) #[true, true, true, true, true, true, true, true, true, true, false, false, false, false] rfl rfl (one_of HT_.out (by kernel_rfl)) (by decide) (fun K hK => ?_)
    refine goes_ Try.func50 (by kernel_rfl) rfl #[.bool t715, .agg #[.int .u64 t716, .int .u64 t717], .agg #[.int .u64 t721, .int .u64 t722]] (by rfl) rfl rfl (by (try simp only [List.map_toArray, List.map_cons, List.map_nil]); first | done | rfl | (simp only [List.length_drop, List.length_take]; rfl)) ?_
    with_reducible refine (awardingbodyref01_Reduce.calls kj2 t715 t716 t717 t721 t722 t723 t724 t725 _ A35.out).mono ?_
    rintro e w47 ⟨rfl, hb⟩
    refine ⟨_, rfl, ?_⟩
    have n0_ := kb BK702 hb
    have n1_ := kb BK703 hb
    have n2_ := kb BK704 hb
    have n3_ := kb BK718 hb
    have n4_ := wb HB hb
    clear BK702
    clear BK703
    clear BK704
    clear BK718
    clear HB
    have BK702 := n0_
    have BK703 := n1_
    have BK704 := n2_
    have BK718 := n3_
    have HB := n4_
    clear n0_ n1_ n2_ n3_ n4_
    (try clear hb)
    (try clear hb2)
    (try clear hk)
    (try clear hi)
    refine hK.out _ _ ⟨(blk_cell BK718.out 0).trans rfl, (blk_cell BK718.out 1).trans rfl, (blk_cell BK702.out 0).trans rfl, (blk_cell BK702.out 1).trans rfl, (blk_cell BK703.out 0).trans rfl, (blk_cell BK703.out 1).trans rfl⟩ (fun hHeld => ?_)
    clear hK K
    refine norm_ (a' := ?_) ?_ ?_
    rotate_left
    ·show Act.put _ (some 50) _ = _
     simp only [Act.put, List.setIfInBounds_toArray, List.set_cons_zero, List.set_cons_succ, i64_w, i32_w]
     rfl
    refine pure_ (i := 10) (N := some 51) (v := ?_) (a' := ?_) #[true, true, true, true, true, true, true, true, true, true, true, false, false, false] rfl rfl (any_of HT_.out (by kernel_rfl)) (fun _ _ _ h => h) (Or.inl ⟨by rfl, ?_⟩) ?_ ?_
    rotate_left
    ·intro w'
     go_simp
     with_reducible rfl
    rotate_left
    ·simp only [Act.put, List.setIfInBounds_toArray, List.set_cons_zero, List.set_cons_succ, i64_w, i32_w]
     rfl
    refine pure_ (i := 11) (N := some 52) (v := ?_) (a' := ?_) #[true, true, true, true, true, true, true, true, true, true, true, true, false, false] rfl rfl (any_of HT_.out (by kernel_rfl)) (fun _ _ _ h => h) (Or.inl ⟨by rfl, ?_⟩) ?_ ?_
    rotate_left
    ·intro w'
     go_simp
     with_reducible rfl
    rotate_left
    ·simp only [Act.put, List.setIfInBounds_toArray, List.set_cons_zero, List.set_cons_succ, i64_w, i32_w]
     rfl
    refine one_ (i := 12) (N := none) #[true, true, true, true, true, true, true, true, true, true, true, true, true, false] rfl rfl (one_of HT_.out (by kernel_rfl)) (by decide) (fun K hK => ?_)
    have hs48 : w47.cell? ⟨gb704, 0, none⟩ = some (.int .i64 0) := (blk_cell BK704.out 0).trans rfl
    have hfs48 := blk_frozen BK704.out 0
    have hns48_0 := NB702_704.out
    have hns48_1 := NB703_704.out
    have hns48_3 := NB718_704.out
    have hms48_0 := NB704_702.out
    have hms48_1 := NB704_703.out
    have hms48_3 := NB704_718.out
    have hs49 : w47.cell? ⟨gb704, 1, none⟩ = some (.int .i64 0) := (blk_cell BK704.out 1).trans rfl
    have hfs49 := blk_frozen BK704.out 1
    have hns49_0 := NB702_704.out
    have hns49_1 := NB703_704.out
    have hns49_3 := NB718_704.out
    have hms49_0 := NB704_702.out
    have hms49_1 := NB704_703.out
    have hms49_3 := NB704_718.out
    refine skip_ (w1 := ?_) (by rfl) rfl ?_ ?_
    rotate_left
    ·go_simp
     rfl
    refine hK.out _ _ ⟨((cell_far (p := ⟨gb704, _, none⟩) NB718_704.out _).trans (((cell_far (p := ⟨gb704, _, none⟩) NB718_704.out _).trans (hHeld.1)))), ((cell_far (p := ⟨gb704, _, none⟩) NB718_704.out _).trans (((cell_far (p := ⟨gb704, _, none⟩) NB718_704.out _).trans (hHeld.2.1)))), ((cell_far (p := ⟨gb704, _, none⟩) NB702_704.out _).trans (((cell_far (p := ⟨gb704, _, none⟩) NB702_704.out _).trans (hHeld.2.2.1)))), ((cell_far (p := ⟨gb704, _, none⟩) NB702_704.out _).trans (((cell_far (p := ⟨gb704, _, none⟩) NB702_704.out _).trans (hHeld.2.2.2.1)))), ((cell_far (p := ⟨gb704, _, none⟩) NB703_704.out _).trans (((cell_far (p := ⟨gb704, _, none⟩) NB703_704.out _).trans (hHeld.2.2.2.2.1)))), ((cell_far (p := ⟨gb704, _, none⟩) NB703_704.out _).trans (((cell_far (p := ⟨gb704, _, none⟩) NB703_704.out _).trans (hHeld.2.2.2.2.2))))⟩ (fun hHeld => ?_)
    clear hK K
    refine pure_ (i := 13) (N := some 5) (v := ?_) (a' := ?_) #[true, true, true, true, true, true, true, true, true, true, true, true, true, true] rfl rfl (any_of HT_.out (by kernel_rfl)) (fun _ _ _ h => h) (Or.inl ⟨by rfl, ?_⟩) ?_ ?_
    rotate_left
    ·intro w'
     go_simp
     with_reducible rfl
    rotate_left
    ·simp only [Act.put, List.setIfInBounds_toArray, List.set_cons_zero, List.set_cons_succ, i64_w, i32_w]
     rfl
    refine done_ (done_of HT_.out (by kernel_rfl)) ?_
    try go_wp2
    refine bodyPost_ret (results_ct rfl _ _ gb704 35 #[.int .i64 t723, .int .i64 t724] (0, 0) _ rfl (by refine pe ?_; refine blk_put (cs := #[.int .i64 t723, .int .i64 0]) ?_ 1 _ rfl; refine pe ?_; refine blk_put (cs := #[.int .i64 0, .int .i64 0]) ?_ 0 _ rfl; refine pe ?_; exact BK704.out) Try.underlying35 rfl (by kernel_rfl)) rfl ?_
    exact ⟨by first | rfl | (simp [errW_none, errW_some] <;> rfl) | (simp [*, errW_none, errW_some] <;> rfl), bw HB⟩

end Go.Proofs.Ytcbohbeipgcfhaa.G
