-- Printed by gp.py (a program of this session's own, over the kit's printer) out of the translation; Lean checks it.
import Derived.Test.YtcbohbeipgcfhaaG0
import Derived.Test.YtcbohbeipgcfhaaGf32
namespace Go.Proofs.Ytcbohbeipgcfhaa.G
open Go.Proofs.Ytcbohbeipgcfhaa.Given Go.Proofs.Ytcbohbeipgcfhaa.Short
open Go.RowKit Go.Proofs.YtcbohbeipgcfhaaW.PrintWords Go.Proofs.YtcbohbeipgcfhaaW.PrintLast Go.Proofs.YtcbohbeipgcfhaaW.PrintMore
attribute [local go_sem] max2_int min2_int max_two min_two max_three min_three max_four min_four   -- for this text's walks alone
set_option linter.unusedVariables false
set_option linter.unusedSimpArgs false

/-! ### awardingbodyref01_Less: function 34 -/
def awardingbodyref01_Less.f (k : Nat) (a0_0 : Int) (a0_1 : Int) (a1_0 : Int) (a1_1 : Int) : Option (Bool) := (awardingbodyref01_Compare.f k a0_0 a0_1 a1_0 a1_1).bind fun t496 => (some (decide (t496 < 0)))
theorem awardingbodyref01_Less.mono : ∀ a0 a1 a2 a3 k, LeO (awardingbodyref01_Less.f k a0 a1 a2 a3) (awardingbodyref01_Less.f (k + 1) a0 a1 a2 a3) := by
  intro a0 a1 a2 a3 k
  unfold awardingbodyref01_Less.f
  repeat' first
      | (with_reducible exact awardingbodyref01_Compare.mono _ _ _ _ _)
      | (with_reducible exact LeO.refl _)
      | (with_reducible exact LeO.none _)
      | (with_reducible refine LeO.ite ?_ ?_)
      | (with_reducible refine LeO.bind ?_ (fun _ => ?_))
      | exact awardingbodyref01_Compare.mono _ _ _ _ _
      | exact LeO.none _
      | refine LeO.ite ?_ ?_
      | refine LeO.bind ?_ (fun _ => ?_)
set_option maxHeartbeats 8000000 in
set_option maxRecDepth 100000 in
theorem awardingbodyref01_Less.calls (k : Nat) (a0_0 : Int) (a0_1 : Int) (a1_0 : Int) (a1_1 : Int) (r : Bool) (w : World) (h : awardingbodyref01_Less.f k a0_0 a0_1 a1_0 a1_1 = some r) :
    Calls Try.prog 34 #[.agg #[.int .i64 a0_0, .int .i64 a0_1], .agg #[.int .i64 a1_0, .int .i64 a1_1]] w fun e w' => e = .returned (.bool r) ∧ Below w.heap.size w w' := by
  have hu35 := Try.underlying35
  have HB := Aside0.mk (Below.refl w.heap.size w)
  have H : ((awardingbodyref01_Compare.f k a0_0 a0_1 a1_0 a1_1).bind fun t496 => (some (decide (t496 < 0)))) = some r := h
  clear h
  replace H := Option.bind_eq_some_iff.mp H
  obtain ⟨t496, A30, H⟩ := H
  replace H : (some (decide (t496 < 0))) = some r := H
  have A3 := Aside0.mk A30
  clear A30
  obtain rfl := Option.some.inj H
  go_enter Try.func34, Try.ntmps34
  go_wp2_with (first | ((with_reducible refine gate_dst (N := 2) rfl ?_); refine box_event ?hg (N := 2) ?hd (cs := #[.int .i64 a0_0, .int .i64 a0_1]) (t := 35) ?hr ?_; (case hd => rfl); (case hg => rfl); (case hr => first | (go_simp; done) | (go_simp; rfl)); intro gb494 hg w4 hbox hb; have BK494 := Aside0.mk (hbox); have GW494 := gs HB hg; have GE494 := gs HB hg; replace HB := wb HB hb; clear hb hbox hg) | ((with_reducible refine gate_dst (N := 3) rfl ?_); refine box_event ?hg (N := 3) ?hd (cs := #[.int .i64 a1_0, .int .i64 a1_1]) (t := 35) ?hr ?_; (case hd => rfl); (case hg => rfl); (case hr => first | (go_simp; done) | (go_simp; rfl)); intro gb495 hg w5 hbox hb; have BK495 := Aside0.mk (hbox); have GW495 := gs HB hg; have GE495 := gs HB hg; have NB494_495 := nl BK494 hg; have NB495_494 := nr BK494 hg; replace BK494 := kb BK494 hb; replace HB := wb HB hb; clear hb hbox hg; obtain ⟨hnb6, hnc6⟩ := n2 NB494_495; have hcz7_0 : w5.cell? ⟨gb494, 0, none⟩ = some (.int .i64 a0_0) := (blk_cell BK494.out 0).trans rfl; have hcz7_1 : w5.cell? ⟨gb494, 1, none⟩ = some (.int .i64 a0_1) := (blk_cell BK494.out 1).trans rfl; have hfz7_0 := blk_frozen BK494.out 0; have hfz7_1 := blk_frozen BK494.out 1; have hcz8_0 : w5.cell? ⟨gb495, 0, none⟩ = some (.int .i64 a1_0) := (blk_cell BK495.out 0).trans rfl; have hcz8_1 : w5.cell? ⟨gb495, 1, none⟩ = some (.int .i64 a1_1) := (blk_cell BK495.out 1).trans rfl; have hfz8_0 := blk_frozen BK495.out 0; have hfz8_1 := blk_frozen BK495.out 1) | ((with_reducible refine gate_callee (f := 32) rfl ?_); refine goesL_ (some 7) rfl rfl Try.func32 (by kernel_rfl) rfl #[.agg #[.int .i64 a0_0, .int .i64 a0_1], .agg #[.int .i64 a1_0, .int .i64 a1_1]] rfl (by (try simp only [List.map_toArray, List.map_cons, List.map_nil]); first | done | rfl | (simp only [List.length_drop, List.length_take]; rfl)) ?_; (with_reducible refine (awardingbodyref01_Compare.calls k a0_0 a0_1 a1_0 a1_1 t496 _ A3.out).mono ?_); rintro e w9 ⟨rfl, hb⟩; refine ⟨_, rfl, ?_⟩; replace BK494 := kb BK494 hb; replace BK495 := kb BK495 hb; replace HB := wb HB hb; (try clear hb); (try clear hb2); (try clear hk); (try clear hi)))
  go_ret
  exact ⟨by first | rfl | (simp [errW_none, errW_some] <;> rfl) | (simp [*, errW_none, errW_some] <;> rfl), bw HB⟩

end Go.Proofs.Ytcbohbeipgcfhaa.G
