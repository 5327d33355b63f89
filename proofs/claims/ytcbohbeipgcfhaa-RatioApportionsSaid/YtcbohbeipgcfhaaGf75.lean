-- Printed by gp.py (a program of this session's own, over the kit's printer) out of the translation; Lean checks it.
import Derived.Test.YtcbohbeipgcfhaaG0
namespace Go.Proofs.Ytcbohbeipgcfhaa.G
open Go.Proofs.Ytcbohbeipgcfhaa.Given Go.Proofs.Ytcbohbeipgcfhaa.Short
open Go.RowKit Go.Proofs.YtcbohbeipgcfhaaW.PrintWords Go.Proofs.YtcbohbeipgcfhaaW.PrintLast Go.Proofs.YtcbohbeipgcfhaaW.PrintMore
attribute [local go_sem] max2_int min2_int max_two min_two max_three min_three max_four min_four   -- for this text's walks alone
set_option linter.unusedVariables false
set_option linter.unusedSimpArgs false

/-! ### awardingbodyref01_Twice: function 75 -/
def awardingbodyref01_Twice.f (a0_0 : Int) (a0_1 : Int) : Option (Int × Int) := some (Go.bits .or .u64 (IntKind.u64.wrap (a0_0 * 2)) (a0_1 / 9223372036854775808), IntKind.u64.wrap (a0_1 * 2))
set_option maxHeartbeats 8000000 in
set_option maxRecDepth 100000 in
theorem awardingbodyref01_Twice.calls (a0_0 : Int) (a0_1 : Int) (r1 : Int) (r2 : Int) (w : World) (h : awardingbodyref01_Twice.f a0_0 a0_1 = some (r1, r2)) :
    Calls Try.prog 75 #[.agg #[.int .u64 a0_0, .int .u64 a0_1]] w fun e w' => e = .returned (.agg #[.int .u64 r1, .int .u64 r2]) ∧ Below w.heap.size w w' := by
  have hu61 := Try.underlying61
  have HB := Aside0.mk (Below.refl w.heap.size w)
  have H : (some (Go.bits .or .u64 (IntKind.u64.wrap (a0_0 * 2)) (a0_1 / 9223372036854775808), IntKind.u64.wrap (a0_1 * 2))) = some (r1, r2) := h
  clear h
  simp only [Option.some.injEq, Prod.mk.injEq] at H
  obtain ⟨rfl, rfl⟩ := H
  go_enter Try.func75, Try.ntmps75
  go_wp2_with (first | ((with_reducible refine gate_dst (N := 1) rfl ?_); refine box_event ?hg (N := 1) ?hd (cs := #[.int .u64 a0_0, .int .u64 a0_1]) (t := 61) ?hr ?_; (case hd => rfl); (case hg => rfl); (case hr => first | (go_simp; done) | (go_simp; rfl)); intro gb216 hg w2 hbox hb; have BK216 := Aside0.mk (hbox); have GW216 := gs HB hg; have GE216 := gs HB hg; replace HB := wb HB hb; clear hb hbox hg) | ((with_reducible refine gate_dst (N := 2) rfl ?_); refine box_event ?hg (N := 2) ?hd (cs := #[.int .u64 0, .int .u64 0]) (t := 61) ?hr ?_; (case hd => rfl); (case hg => rfl); (case hr => first | (go_simp; done) | (go_simp; rfl)); intro gb217 hg w3 hbox hb; have BK217 := Aside0.mk (hbox); have GW217 := gs HB hg; have GE217 := gs HB hg; have NB216_217 := nl BK216 hg; have NB217_216 := nr BK216 hg; replace BK216 := kb BK216 hb; replace HB := wb HB hb; clear hb hbox hg; obtain ⟨hnb4, hnc4⟩ := n2 NB216_217; have hcz5_0 : w3.cell? ⟨gb216, 0, none⟩ = some (.int .u64 a0_0) := (blk_cell BK216.out 0).trans rfl; have hcz5_1 : w3.cell? ⟨gb216, 1, none⟩ = some (.int .u64 a0_1) := (blk_cell BK216.out 1).trans rfl; have hfz5_0 := blk_frozen BK216.out 0; have hfz5_1 := blk_frozen BK216.out 1; have hcz6_0 : w3.cell? ⟨gb217, 0, none⟩ = some (.int .u64 0) := (blk_cell BK217.out 0).trans rfl; have hcz6_1 : w3.cell? ⟨gb217, 1, none⟩ = some (.int .u64 0) := (blk_cell BK217.out 1).trans rfl; have hfz6_0 := blk_frozen BK217.out 0; have hfz6_1 := blk_frozen BK217.out 1))
  refine bodyPost_ret (results_cell_row rfl _ _ gb217 61 #[.int .u64 (Go.bits .or .u64 (IntKind.u64.wrap (a0_0 * 2)) (a0_1 / 9223372036854775808)), .int .u64 (IntKind.u64.wrap (a0_1 * 2))] (0, 0) _ rfl (by refine pe ?_; refine blk_put (cs := #[.int .u64 (Go.bits .or .u64 (IntKind.u64.wrap (a0_0 * 2)) (a0_1 / 9223372036854775808)), .int .u64 0]) ?_ 1 _ rfl; refine pe ?_; refine blk_put (cs := #[.int .u64 0, .int .u64 0]) ?_ 0 _ rfl; refine pe ?_; exact BK217.out) Try.underlying61 rfl (by kernel_rfl)) rfl ?_
  exact ⟨by first | rfl | (simp [errW_none, errW_some] <;> rfl) | (simp [*, errW_none, errW_some] <;> rfl), bw HB⟩

end Go.Proofs.Ytcbohbeipgcfhaa.G
