-- Printed by gp.py (a program of this session's own, over the kit's printer) out of the translation; Lean checks it.
import Derived.Test.YtcbohbeipgcfhaaG0
import Derived.Test.YtcbohbeipgcfhaaGe1
import Derived.Test.YtcbohbeipgcfhaaGf63
namespace Go.Proofs.Ytcbohbeipgcfhaa.G
open Go.Proofs.Ytcbohbeipgcfhaa.Given Go.Proofs.Ytcbohbeipgcfhaa.Short
open Go.RowKit Go.Proofs.YtcbohbeipgcfhaaW.PrintWords Go.Proofs.YtcbohbeipgcfhaaW.PrintLast Go.Proofs.YtcbohbeipgcfhaaW.PrintMore
attribute [local go_sem] max2_int min2_int max_two min_two max_three min_three max_four min_four   -- for this text's walks alone
set_option linter.unusedVariables false
set_option linter.unusedSimpArgs false

attribute [local go_sem high] eqA61
/-! ### awardingbodyref01_Divisor: function 53 -/
def awardingbodyref01_Divisor.l0 : Nat → Int → Int → Int → Int → Option (Int × Int)
  | 0, _, _, _, _ => none
  | k + 1, x234000, x234001, x235000, x235001 => if (!(x235000 == 0) || (!(x235001 == 0))) = true then ((awardingbodyref01_Divide.f k x234000 x234001 x235000 x235001).bind fun bt236 => (awardingbodyref01_Divisor.l0 k x235000 x235001 bt236.2.2.1 bt236.2.2.2)) else (some (x234000, x234001))
def awardingbodyref01_Divisor.f (k : Nat) (a0_0 : Int) (a0_1 : Int) (a1_0 : Int) (a1_1 : Int) : Option (Int × Int) := awardingbodyref01_Divisor.l0 k a0_0 a0_1 a1_0 a1_1
theorem awardingbodyref01_Divisor.mono_l : ∀ k, (∀ y0 y1 y2 y3, LeO (awardingbodyref01_Divisor.l0 k y0 y1 y2 y3) (awardingbodyref01_Divisor.l0 (k + 1) y0 y1 y2 y3))
  | 0 => fun _ _ _ _ r h => by simp [awardingbodyref01_Divisor.l0] at h
  | k + 1 => by
    have ih0 := awardingbodyref01_Divisor.mono_l k
    · intro y0 y1 y2 y3
      unfold awardingbodyref01_Divisor.l0
      repeat' first
      | (with_reducible exact ih0 _ _ _ _)
      | (with_reducible exact awardingbodyref01_Divide.mono _ _ _ _ _)
      | (with_reducible exact LeO.refl _)
      | (with_reducible exact LeO.none _)
      | (with_reducible refine LeO.ite ?_ ?_)
      | (with_reducible refine LeO.bind ?_ (fun _ => ?_))
      | exact ih0 _ _ _ _
      | exact awardingbodyref01_Divide.mono _ _ _ _ _
      | exact LeO.none _
      | refine LeO.ite ?_ ?_
      | refine LeO.bind ?_ (fun _ => ?_)
theorem awardingbodyref01_Divisor.mono : ∀ a0 a1 a2 a3 k, LeO (awardingbodyref01_Divisor.f k a0 a1 a2 a3) (awardingbodyref01_Divisor.f (k + 1) a0 a1 a2 a3) := by
  intro a0 a1 a2 a3 k
  have ih0 := awardingbodyref01_Divisor.mono_l k
  unfold awardingbodyref01_Divisor.f
  repeat' first
      | (with_reducible exact ih0 _ _ _ _)
      | (with_reducible exact awardingbodyref01_Divide.mono _ _ _ _ _)
      | (with_reducible exact LeO.refl _)
      | (with_reducible exact LeO.none _)
      | (with_reducible refine LeO.ite ?_ ?_)
      | (with_reducible refine LeO.bind ?_ (fun _ => ?_))
      | exact ih0 _ _ _ _
      | exact awardingbodyref01_Divide.mono _ _ _ _ _
      | exact LeO.none _
      | refine LeO.ite ?_ ?_
      | refine LeO.bind ?_ (fun _ => ?_)
set_option maxHeartbeats 8000000 in
set_option maxRecDepth 100000 in
theorem awardingbodyref01_Divisor.calls (k : Nat) (a0_0 : Int) (a0_1 : Int) (a1_0 : Int) (a1_1 : Int) (r1 : Int) (r2 : Int) (w : World) (h : awardingbodyref01_Divisor.f k a0_0 a0_1 a1_0 a1_1 = some (r1, r2)) :
    Calls Try.prog 53 #[.agg #[.int .u64 a0_0, .int .u64 a0_1], .agg #[.int .u64 a1_0, .int .u64 a1_1]] w fun e w' => e = .returned (.agg #[.int .u64 r1, .int .u64 r2]) ∧ Below w.heap.size w w' := by
  have hu61 := Try.underlying61
  have HB := Aside0.mk (Below.refl w.heap.size w)
  have H : (awardingbodyref01_Divisor.l0 k a0_0 a0_1 a1_0 a1_1) = some (r1, r2) := h
  clear h
  have H' := Aside0.mk H
  clear H
  go_enter Try.func53, Try.ntmps53
  go_wp2_with (first | ((with_reducible refine gate_dst (N := 2) rfl ?_); refine box_event ?hg (N := 2) ?hd (cs := #[.int .u64 a0_0, .int .u64 a0_1]) (t := 61) ?hr ?_; (case hd => rfl); (case hg => rfl); (case hr => first | (go_simp; done) | (go_simp; rfl)); intro gb233 hg w3 hbox hb; have BK233 := Aside0.mk (hbox); have GW233 := gs HB hg; have GE233 := gs HB hg; replace HB := wb HB hb; clear hb hbox hg) | ((with_reducible refine gate_dst (N := 3) rfl ?_); refine box_event ?hg (N := 3) ?hd (cs := #[.int .u64 a1_0, .int .u64 a1_1]) (t := 61) ?hr ?_; (case hd => rfl); (case hg => rfl); (case hr => first | (go_simp; done) | (go_simp; rfl)); intro gb234 hg w4 hbox hb; have BK234 := Aside0.mk (hbox); have GW234 := gs HB hg; have GE234 := gs HB hg; have NB233_234 := nl BK233 hg; have NB234_233 := nr BK233 hg; replace BK233 := kb BK233 hb; replace HB := wb HB hb; clear hb hbox hg) | ((with_reducible refine gate_dst (N := 4) rfl ?_); refine box_event ?hg (N := 4) ?hd (cs := #[.int .u64 0, .int .u64 0]) (t := 61) ?hr ?_; (case hd => rfl); (case hg => rfl); (case hr => first | (go_simp; done) | (go_simp; rfl)); intro gb235 hg w5 hbox hb; have BK235 := Aside0.mk (hbox); have GW235 := gs HB hg; have GE235 := gs HB hg; have NB233_235 := nl BK233 hg; have NB235_233 := nr BK233 hg; have NB234_235 := nl BK234 hg; have NB235_234 := nr BK234 hg; replace BK233 := kb BK233 hb; replace BK234 := kb BK234 hb; replace HB := wb HB hb; clear hb hbox hg))
  (try simp only [Act.put, List.setIfInBounds_toArray, List.set_cons_zero, List.set_cons_succ])
  go_loopg [] k (fun kq w' => ∃ (x234000_1 : Int) (x234001_1 : Int) (x235000_1 : Int) (x235001_1 : Int), Aside0 (awardingbodyref01_Divisor.l0 kq x234000_1 x234001_1 x235000_1 x235001_1 = some (r1, r2)) ∧ Aside0 (kq ≤ k) ∧ Aside0 (w'.heap[gb233]? = some (.cells #[.int .u64 x234000_1, .int .u64 x234001_1] 61 (0, 0))) ∧ Aside0 (w'.heap[gb234]? = some (.cells #[.int .u64 x235000_1, .int .u64 x235001_1] 61 (0, 0))) ∧ Aside0 (w'.heap[gb235]? = some (.cells #[.int .u64 0, .int .u64 0] 61 (0, 0))) ∧ Aside0 (Below w.heap.size w w'))
  case atStart => exact ⟨(a0_0), (a0_1), (a1_0), (a1_1), H', ⟨Nat.le_refl _⟩, ⟨bq BK233⟩, ⟨bq BK234⟩, ⟨bq BK235⟩, ⟨bw HB⟩⟩
  case round =>
    clear H'
    try clear p2
    try clear c5
    obtain ⟨x234000_1, x234001_1, x235000_1, x235001_1, HA, HK1, BK233, BK234, BK235, HB⟩ := hrel
    cases gk with
    | zero => exact absurd HA.out (by simp [awardingbodyref01_Divisor.l0])
    | succ k1 =>
      have H := HA.out
      clear HA
      simp only [awardingbodyref01_Divisor.l0] at H
      by_cases c6 : (!(x235000_1 == 0) || (!(x235001_1 == 0))) = true
      · rw [if_pos c6] at H
        have c6b0 : (!(x235000_1 == 0) || (!(x235001_1 == 0))) = true := c6
        clear c6
        replace H := Option.bind_eq_some_iff.mp H
        obtain ⟨⟨t236, t237, t238, t239⟩, A70, H⟩ := H
        replace H : (awardingbodyref01_Divisor.l0 k1 x235000_1 x235001_1 t238 t239) = some (r1, r2) := H
        have A7 := Aside0.mk A70
        clear A70
        have H' := Aside0.mk H
        clear H
        obtain ⟨hnb8, hnc8⟩ := n2 NB234_233
        obtain ⟨hnb9, hnc9⟩ := n2 NB234_235
        have hcz10_0 : wr.cell? ⟨gb234, 0, none⟩ = some (.int .u64 x235000_1) := (blk_cell BK234.out 0).trans rfl
        have hcz10_1 : wr.cell? ⟨gb234, 1, none⟩ = some (.int .u64 x235001_1) := (blk_cell BK234.out 1).trans rfl
        have hfz10_0 := blk_frozen BK234.out 0
        have hfz10_1 := blk_frozen BK234.out 1
        obtain ⟨hnb11, hnc11⟩ := n2 NB233_235
        have hcz12_0 : wr.cell? ⟨gb233, 0, none⟩ = some (.int .u64 x234000_1) := (blk_cell BK233.out 0).trans rfl
        have hcz12_1 : wr.cell? ⟨gb233, 1, none⟩ = some (.int .u64 x234001_1) := (blk_cell BK233.out 1).trans rfl
        have hfz12_0 := blk_frozen BK233.out 0
        have hfz12_1 := blk_frozen BK233.out 1
        try go_wp2_with (first | ((with_reducible refine gate_callee (f := 63) rfl ?_); refine goesL_ (some 13) rfl rfl Try.func63 (by kernel_rfl) rfl #[.agg #[.int .u64 x234000_1, .int .u64 x234001_1], .agg #[.int .u64 x235000_1, .int .u64 x235001_1]] rfl (by (try simp only [List.map_toArray, List.map_cons, List.map_nil]); first | done | rfl | (simp only [List.length_drop, List.length_take]; rfl)) ?_; (with_reducible refine (awardingbodyref01_Divide.calls k1 x234000_1 x234001_1 x235000_1 x235001_1 t236 t237 t238 t239 _ A7.out).mono ?_); rintro e w13 ⟨rfl, hb⟩; refine ⟨_, rfl, ?_⟩; replace BK233 := kb BK233 hb; replace BK234 := kb BK234 hb; replace BK235 := kb BK235 hb; replace HB := wb HB hb; (try clear hb); (try clear hb2); (try clear hk); (try clear hi)) | ((with_reducible refine gate_dst (N := 5) rfl ?_); refine box_event ?hg (N := 5) ?hd (cs := #[.int .u64 0, .int .u64 0]) (t := 61) ?hr ?_; (case hd => rfl); (case hg => rfl); (case hr => first | (go_simp; done) | (go_simp; rfl)); intro gb240 hg w14 hbox hb; have BK240 := Aside0.mk (hbox); have GW240 := gs HB hg; have GE240 := gs HB hg; have NB233_240 := nl BK233 hg; have NB240_233 := nr BK233 hg; have NB234_240 := nl BK234 hg; have NB240_234 := nr BK234 hg; have NB235_240 := nl BK235 hg; have NB240_235 := nr BK235 hg; replace BK233 := kb BK233 hb; replace BK234 := kb BK234 hb; replace BK235 := kb BK235 hb; replace HB := wb HB hb; clear hb hbox hg) | ((with_reducible refine gate_dst (N := 6) rfl ?_); refine box_event ?hg (N := 6) ?hd (cs := #[.int .u64 0, .int .u64 0]) (t := 61) ?hr ?_; (case hd => rfl); (case hg => rfl); (case hr => first | (go_simp; done) | (go_simp; rfl)); intro gb241 hg w15 hbox hb; have BK241 := Aside0.mk (hbox); have GW241 := gs HB hg; have GE241 := gs HB hg; have NB233_241 := nl BK233 hg; have NB241_233 := nr BK233 hg; have NB234_241 := nl BK234 hg; have NB241_234 := nr BK234 hg; have NB235_241 := nl BK235 hg; have NB241_235 := nr BK235 hg; have NB240_241 := nl BK240 hg; have NB241_240 := nr BK240 hg; replace BK233 := kb BK233 hb; replace BK234 := kb BK234 hb; replace BK235 := kb BK235 hb; replace BK240 := kb BK240 hb; replace HB := wb HB hb; clear hb hbox hg; obtain ⟨hnb16, hnc16⟩ := n2 NB240_233; obtain ⟨hnb17, hnc17⟩ := n2 NB240_234; obtain ⟨hnb18, hnc18⟩ := n2 NB240_235; obtain ⟨hnb19, hnc19⟩ := n2 NB240_241; have hcz20_0 : w15.cell? ⟨gb240, 0, none⟩ = some (.int .u64 0) := (blk_cell BK240.out 0).trans rfl; have hcz20_1 : w15.cell? ⟨gb240, 1, none⟩ = some (.int .u64 0) := (blk_cell BK240.out 1).trans rfl; have hfz20_0 := blk_frozen BK240.out 0; have hfz20_1 := blk_frozen BK240.out 1; obtain ⟨hnb21, hnc21⟩ := n2 NB241_233; obtain ⟨hnb22, hnc22⟩ := n2 NB241_234; obtain ⟨hnb23, hnc23⟩ := n2 NB241_235; have hcz24_0 : w15.cell? ⟨gb241, 0, none⟩ = some (.int .u64 0) := (blk_cell BK241.out 0).trans rfl; have hcz24_1 : w15.cell? ⟨gb241, 1, none⟩ = some (.int .u64 0) := (blk_cell BK241.out 1).trans rfl; have hfz24_0 := blk_frozen BK241.out 0; have hfz24_1 := blk_frozen BK241.out 1))
        have n0_ : Aside0 (((((w15.setCell ⟨gb240, 0, none⟩ (.int .u64 t236)).setCell ⟨gb240, 1, none⟩ (.int .u64 t237)).setCell ⟨gb241, 0, none⟩ (.int .u64 t238)).setCell ⟨gb241, 1, none⟩ (.int .u64 t239)).heap[gb233]? = some (.cells #[.int .u64 x234000_1, .int .u64 x234001_1] 61 (0, 0))) := ⟨bq BK233⟩
        have n1_ : Aside0 (((((w15.setCell ⟨gb240, 0, none⟩ (.int .u64 t236)).setCell ⟨gb240, 1, none⟩ (.int .u64 t237)).setCell ⟨gb241, 0, none⟩ (.int .u64 t238)).setCell ⟨gb241, 1, none⟩ (.int .u64 t239)).heap[gb234]? = some (.cells #[.int .u64 x235000_1, .int .u64 x235001_1] 61 (0, 0))) := ⟨bq BK234⟩
        have n2_ : Aside0 (((((w15.setCell ⟨gb240, 0, none⟩ (.int .u64 t236)).setCell ⟨gb240, 1, none⟩ (.int .u64 t237)).setCell ⟨gb241, 0, none⟩ (.int .u64 t238)).setCell ⟨gb241, 1, none⟩ (.int .u64 t239)).heap[gb235]? = some (.cells #[.int .u64 0, .int .u64 0] 61 (0, 0))) := ⟨bq BK235⟩
        have n3_ : Aside0 (((((w15.setCell ⟨gb240, 0, none⟩ (.int .u64 t236)).setCell ⟨gb240, 1, none⟩ (.int .u64 t237)).setCell ⟨gb241, 0, none⟩ (.int .u64 t238)).setCell ⟨gb241, 1, none⟩ (.int .u64 t239)).heap[gb240]? = some (.cells #[.int .u64 t236, .int .u64 t237] 61 (0, 0))) := ⟨by refine pe ?_; refine blk_far ?_ NB240_241.out _; refine pe ?_; refine blk_far ?_ NB240_241.out _; refine pe ?_; refine blk_put (cs := #[.int .u64 t236, .int .u64 0]) ?_ 1 _ rfl; refine pe ?_; refine blk_put (cs := #[.int .u64 0, .int .u64 0]) ?_ 0 _ rfl; refine pe ?_; exact BK240.out⟩
        have n4_ : Aside0 (((((w15.setCell ⟨gb240, 0, none⟩ (.int .u64 t236)).setCell ⟨gb240, 1, none⟩ (.int .u64 t237)).setCell ⟨gb241, 0, none⟩ (.int .u64 t238)).setCell ⟨gb241, 1, none⟩ (.int .u64 t239)).heap[gb241]? = some (.cells #[.int .u64 t238, .int .u64 t239] 61 (0, 0))) := ⟨by refine pe ?_; refine blk_put (cs := #[.int .u64 t238, .int .u64 0]) ?_ 1 _ rfl; refine pe ?_; refine blk_put (cs := #[.int .u64 0, .int .u64 0]) ?_ 0 _ rfl; refine pe ?_; refine blk_far ?_ NB241_240.out _; refine pe ?_; refine blk_far ?_ NB241_240.out _; refine pe ?_; exact BK241.out⟩
        have n5_ : Aside0 (Below w.heap.size w ((((w15.setCell ⟨gb240, 0, none⟩ (.int .u64 t236)).setCell ⟨gb240, 1, none⟩ (.int .u64 t237)).setCell ⟨gb241, 0, none⟩ (.int .u64 t238)).setCell ⟨gb241, 1, none⟩ (.int .u64 t239))) := ⟨bw HB⟩
        (try clear BK233)
        (try clear BK234)
        (try clear BK235)
        (try clear BK240)
        (try clear BK241)
        (try clear HB)
        generalize ((((w15.setCell ⟨gb240, 0, none⟩ (.int .u64 t236)).setCell ⟨gb240, 1, none⟩ (.int .u64 t237)).setCell ⟨gb241, 0, none⟩ (.int .u64 t238)).setCell ⟨gb241, 1, none⟩ (.int .u64 t239)) = w25 at n0_ n1_ n2_ n3_ n4_ n5_ ⊢
        have BK233 := n0_
        have BK234 := n1_
        have BK235 := n2_
        have BK240 := n3_
        have BK241 := n4_
        have HB := n5_
        clear n0_ n1_ n2_ n3_ n4_ n5_
        have n0_ := Aside0.mk (blk_drew BK233.out)
        have n1_ := Aside0.mk (blk_drew BK234.out)
        have n2_ := Aside0.mk (blk_drew BK235.out)
        have n3_ := Aside0.mk (blk_drew BK240.out)
        have n4_ := Aside0.mk (blk_drew BK241.out)
        have n5_ := Aside0.mk (below_drew1 HB.out)
        clear BK233
        clear BK234
        clear BK235
        clear BK240
        clear BK241
        clear HB
        have BK233 := n0_
        have BK234 := n1_
        have BK235 := n2_
        have BK240 := n3_
        have BK241 := n4_
        have HB := n5_
        clear n0_ n1_ n2_ n3_ n4_ n5_
        refine start_ (n := 4) (S := fun w' => w'.cell? ⟨gb234, 0, none⟩ = some (.int .u64 x235000_1) ∧ w'.cell? ⟨gb234, 1, none⟩ = some (.int .u64 x235001_1) ∧ w'.cell? ⟨gb241, 0, none⟩ = some (.int .u64 t238) ∧ w'.cell? ⟨gb241, 1, none⟩ = some (.int .u64 t239)) (ds := [3]) #[false, false, false, false] (by kernel_rfl) rfl rfl ⟨(blk_cell BK234.out 0).trans rfl, (blk_cell BK234.out 1).trans rfl, (blk_cell BK241.out 0).trans rfl, (blk_cell BK241.out 1).trans rfl⟩ (fun hHeld => ?_)
        generalize w25.drew = w26 at BK233 BK234 BK235 BK240 BK241 HB hHeld ⊢
        refine take_ (i := 0) (N := some 16) (v := ?_) (a' := ?_) #[true, false, false, false] rfl rfl (by kernel_rfl) (fun _ _ _ h => h) (Or.inl ⟨by rfl, ?_⟩) hHeld ?_ ?_
        rotate_left
        · rintro w' ⟨s0, s1, s2, s3⟩
          go_simp
          with_reducible rfl
        rotate_left
        · simp only [Act.put, List.setIfInBounds_toArray, List.set_cons_zero, List.set_cons_succ, i64_w, i32_w]
          rfl
        refine take_ (i := 1) (N := some 17) (v := ?_) (a' := ?_) #[true, true, false, false] rfl rfl (by kernel_rfl) (fun _ _ _ h => h) (Or.inl ⟨by rfl, ?_⟩) hHeld ?_ ?_
        rotate_left
        · rintro w' ⟨s0, s1, s2, s3⟩
          go_simp
          with_reducible rfl
        rotate_left
        · simp only [Act.put, List.setIfInBounds_toArray, List.set_cons_zero, List.set_cons_succ, i64_w, i32_w]
          rfl
        refine one_ (i := 2) (N := none) #[true, true, true, false] rfl rfl (by kernel_rfl) (by decide) (fun K hK => ?_)
        have hs27 : w26.cell? ⟨gb233, 0, none⟩ = some (.int .u64 x234000_1) := (blk_cell BK233.out 0).trans rfl
        have hfs27 := blk_frozen BK233.out 0
        have hns27_1 := NB234_233.out
        have hns27_2 := NB235_233.out
        have hns27_3 := NB240_233.out
        have hns27_4 := NB241_233.out
        have hms27_1 := NB233_234.out
        have hms27_2 := NB233_235.out
        have hms27_3 := NB233_240.out
        have hms27_4 := NB233_241.out
        have hs28 : w26.cell? ⟨gb233, 1, none⟩ = some (.int .u64 x234001_1) := (blk_cell BK233.out 1).trans rfl
        have hfs28 := blk_frozen BK233.out 1
        have hns28_1 := NB234_233.out
        have hns28_2 := NB235_233.out
        have hns28_3 := NB240_233.out
        have hns28_4 := NB241_233.out
        have hms28_1 := NB233_234.out
        have hms28_2 := NB233_235.out
        have hms28_3 := NB233_240.out
        have hms28_4 := NB233_241.out
        refine skip_ (w1 := ?_) (by rfl) rfl ?_ ?_
        rotate_left
        · go_simp
          rfl
        refine hK.out _ _ ⟨((cell_far (p := ⟨gb233, _, none⟩) NB234_233.out _).trans (((cell_far (p := ⟨gb233, _, none⟩) NB234_233.out _).trans (hHeld.1)))), ((cell_far (p := ⟨gb233, _, none⟩) NB234_233.out _).trans (((cell_far (p := ⟨gb233, _, none⟩) NB234_233.out _).trans (hHeld.2.1)))), ((cell_far (p := ⟨gb233, _, none⟩) NB241_233.out _).trans (((cell_far (p := ⟨gb233, _, none⟩) NB241_233.out _).trans (hHeld.2.2.1)))), ((cell_far (p := ⟨gb233, _, none⟩) NB241_233.out _).trans (((cell_far (p := ⟨gb233, _, none⟩) NB241_233.out _).trans (hHeld.2.2.2))))⟩ (fun hHeld => ?_)
        clear hK K
        refine last_ (i := 3) (N := none) #[true, true, true, true] rfl rfl (by kernel_rfl) (by decide) (fun K hK => ?_)
        have hs29 : w26.cell? ⟨gb234, 0, none⟩ = some (.int .u64 x235000_1) := (blk_cell BK234.out 0).trans rfl
        have hfs29 := blk_frozen BK234.out 0
        have hns29_0 := NB233_234.out
        have hns29_2 := NB235_234.out
        have hns29_3 := NB240_234.out
        have hns29_4 := NB241_234.out
        have hms29_0 := NB234_233.out
        have hms29_2 := NB234_235.out
        have hms29_3 := NB234_240.out
        have hms29_4 := NB234_241.out
        have hs30 : w26.cell? ⟨gb234, 1, none⟩ = some (.int .u64 x235001_1) := (blk_cell BK234.out 1).trans rfl
        have hfs30 := blk_frozen BK234.out 1
        have hns30_0 := NB233_234.out
        have hns30_2 := NB235_234.out
        have hns30_3 := NB240_234.out
        have hns30_4 := NB241_234.out
        have hms30_0 := NB234_233.out
        have hms30_2 := NB234_235.out
        have hms30_3 := NB234_240.out
        have hms30_4 := NB234_241.out
        refine skip_ (w1 := ?_) (by rfl) rfl ?_ ?_
        rotate_left
        · go_simp
          rfl
        refine hK.out _ _ ?_
        clear hK K
        refine done_ (by kernel_rfl) ?_
        try go_wp2
        go_roundg k1
        case measure => have := HK1.out; omega
        case rel => exact ⟨(x235000_1), (x235001_1), (t238), (t239), H', ⟨by have := HK1.out; omega⟩, ⟨by refine pe ?_; refine blk_far ?_ NB233_234.out _; refine pe ?_; refine blk_far ?_ NB233_234.out _; refine pe ?_; refine blk_put (cs := #[.int .u64 x235000_1, .int .u64 x234001_1]) ?_ 1 _ rfl; refine pe ?_; refine blk_put (cs := #[.int .u64 x234000_1, .int .u64 x234001_1]) ?_ 0 _ rfl; refine pe ?_; exact BK233.out⟩, ⟨by refine pe ?_; refine blk_put (cs := #[.int .u64 t238, .int .u64 x235001_1]) ?_ 1 _ rfl; refine pe ?_; refine blk_put (cs := #[.int .u64 x235000_1, .int .u64 x235001_1]) ?_ 0 _ rfl; refine pe ?_; refine blk_far ?_ NB234_233.out _; refine pe ?_; refine blk_far ?_ NB234_233.out _; refine pe ?_; exact BK234.out⟩, ⟨bq BK235⟩, ⟨bw HB⟩⟩
      · rw [if_neg c6] at H
        have c6b0 : (!(x235000_1 == 0) || (!(x235001_1 == 0))) = false := by simpa using c6
        clear c6
        simp only [Option.some.injEq, Prod.mk.injEq] at H
        obtain ⟨rfl, rfl⟩ := H
        obtain ⟨hnb31, hnc31⟩ := n2 NB234_233
        obtain ⟨hnb32, hnc32⟩ := n2 NB234_235
        have hcz33_0 : wr.cell? ⟨gb234, 0, none⟩ = some (.int .u64 x235000_1) := (blk_cell BK234.out 0).trans rfl
        have hcz33_1 : wr.cell? ⟨gb234, 1, none⟩ = some (.int .u64 x235001_1) := (blk_cell BK234.out 1).trans rfl
        have hfz33_0 := blk_frozen BK234.out 0
        have hfz33_1 := blk_frozen BK234.out 1
        obtain ⟨hnb34, hnc34⟩ := n2 NB233_235
        have hcz35_0 : wr.cell? ⟨gb233, 0, none⟩ = some (.int .u64 x234000_1) := (blk_cell BK233.out 0).trans rfl
        have hcz35_1 : wr.cell? ⟨gb233, 1, none⟩ = some (.int .u64 x234001_1) := (blk_cell BK233.out 1).trans rfl
        have hfz35_0 := blk_frozen BK233.out 0
        have hfz35_1 := blk_frozen BK233.out 1
        have hcz36_0 : wr.cell? ⟨gb235, 0, none⟩ = some (.int .u64 0) := (blk_cell BK235.out 0).trans rfl
        have hcz36_1 : wr.cell? ⟨gb235, 1, none⟩ = some (.int .u64 0) := (blk_cell BK235.out 1).trans rfl
        have hfz36_0 := blk_frozen BK235.out 0
        have hfz36_1 := blk_frozen BK235.out 1
        go_wp2
        refine bodyPost_ret (results_cell_row rfl _ _ gb235 61 #[.int .u64 x234000_1, .int .u64 x234001_1] (0, 0) _ rfl (by refine pe ?_; refine blk_put (cs := #[.int .u64 x234000_1, .int .u64 0]) ?_ 1 _ rfl; refine pe ?_; refine blk_put (cs := #[.int .u64 0, .int .u64 0]) ?_ 0 _ rfl; refine pe ?_; exact BK235.out) Try.underlying61 rfl (by kernel_rfl)) rfl ?_
        exact ⟨by first | rfl | (simp [errW_none, errW_some] <;> rfl) | (simp [*, errW_none, errW_some] <;> rfl), bw HB⟩

end Go.Proofs.Ytcbohbeipgcfhaa.G
