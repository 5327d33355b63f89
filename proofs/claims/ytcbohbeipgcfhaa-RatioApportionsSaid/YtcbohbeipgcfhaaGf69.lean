-- Printed by gp.py (a program of this session's own, over the kit's printer) out of the translation; Lean checks it.
import Derived.Test.YtcbohbeipgcfhaaG0
namespace Go.Proofs.Ytcbohbeipgcfhaa.G
open Go.Proofs.Ytcbohbeipgcfhaa.Given Go.Proofs.Ytcbohbeipgcfhaa.Short
open Go.RowKit Go.Proofs.YtcbohbeipgcfhaaW.PrintWords Go.Proofs.YtcbohbeipgcfhaaW.PrintLast Go.Proofs.YtcbohbeipgcfhaaW.PrintMore
attribute [local go_sem] max2_int min2_int max_two min_two max_three min_three max_four min_four   -- for this text's walks alone
set_option linter.unusedVariables false
set_option linter.unusedSimpArgs false

/-! ### awardingbodyref01_Plus: function 69 -/
def awardingbodyref01_Plus.f (a0_0 : Int) (a0_1 : Int) (a1_0 : Int) (a1_1 : Int) : Option (Int × Int) := (bits_Add64.f a0_1 a1_1 0).bind fun bt461 => ((bits_Add64.f a0_0 a1_0 bt461.2).bind fun bt463 => (some (bt463.1, bt461.1)))
set_option maxHeartbeats 8000000 in
set_option maxRecDepth 100000 in
theorem awardingbodyref01_Plus.calls (a0_0 : Int) (a0_1 : Int) (a1_0 : Int) (a1_1 : Int) (r1 : Int) (r2 : Int) (w : World) (h : awardingbodyref01_Plus.f a0_0 a0_1 a1_0 a1_1 = some (r1, r2)) :
    Calls Try.prog 69 #[.agg #[.int .u64 a0_0, .int .u64 a0_1], .agg #[.int .u64 a1_0, .int .u64 a1_1]] w fun e w' => e = .returned (.agg #[.int .u64 r1, .int .u64 r2]) ∧ Below w.heap.size w w' := by
  have hu61 := Try.underlying61
  have HB := Aside0.mk (Below.refl w.heap.size w)
  have H : ((bits_Add64.f a0_1 a1_1 0).bind fun bt461 => ((bits_Add64.f a0_0 a1_0 bt461.2).bind fun bt463 => (some (bt463.1, bt461.1)))) = some (r1, r2) := h
  clear h
  replace H := Option.bind_eq_some_iff.mp H
  obtain ⟨⟨t461, t462⟩, A30, H⟩ := H
  replace H : ((bits_Add64.f a0_0 a1_0 t462).bind fun bt463 => (some (bt463.1, t461))) = some (r1, r2) := H
  have A3 := Aside0.mk A30
  clear A30
  replace H := Option.bind_eq_some_iff.mp H
  obtain ⟨⟨t463, t464⟩, A40, H⟩ := H
  replace H : (some (t463, t461)) = some (r1, r2) := H
  have A4 := Aside0.mk A40
  clear A40
  simp only [Option.some.injEq, Prod.mk.injEq] at H
  obtain ⟨rfl, rfl⟩ := H
  go_enter Try.func69, Try.ntmps69
  go_wp2_with (first | ((with_reducible refine gate_dst (N := 2) rfl ?_); refine box_event ?hg (N := 2) ?hd (cs := #[.int .u64 a0_0, .int .u64 a0_1]) (t := 61) ?hr ?_; (case hd => rfl); (case hg => rfl); (case hr => first | (go_simp; done) | (go_simp; rfl)); intro gb458 hg w5 hbox hb; have BK458 := Aside0.mk (hbox); have GW458 := gs HB hg; have GE458 := gs HB hg; replace HB := wb HB hb; clear hb hbox hg) | ((with_reducible refine gate_dst (N := 3) rfl ?_); refine box_event ?hg (N := 3) ?hd (cs := #[.int .u64 a1_0, .int .u64 a1_1]) (t := 61) ?hr ?_; (case hd => rfl); (case hg => rfl); (case hr => first | (go_simp; done) | (go_simp; rfl)); intro gb459 hg w6 hbox hb; have BK459 := Aside0.mk (hbox); have GW459 := gs HB hg; have GE459 := gs HB hg; have NB458_459 := nl BK458 hg; have NB459_458 := nr BK458 hg; replace BK458 := kb BK458 hb; replace HB := wb HB hb; clear hb hbox hg) | ((with_reducible refine gate_dst (N := 4) rfl ?_); refine box_event ?hg (N := 4) ?hd (cs := #[.int .u64 0, .int .u64 0]) (t := 61) ?hr ?_; (case hd => rfl); (case hg => rfl); (case hr => first | (go_simp; done) | (go_simp; rfl)); intro gb460 hg w7 hbox hb; have BK460 := Aside0.mk (hbox); have GW460 := gs HB hg; have GE460 := gs HB hg; have NB458_460 := nl BK458 hg; have NB460_458 := nr BK458 hg; have NB459_460 := nl BK459 hg; have NB460_459 := nr BK459 hg; replace BK458 := kb BK458 hb; replace BK459 := kb BK459 hb; replace HB := wb HB hb; clear hb hbox hg; obtain ⟨hnb8, hnc8⟩ := n2 NB458_459; obtain ⟨hnb9, hnc9⟩ := n2 NB458_460; have hcz10_0 : w7.cell? ⟨gb458, 0, none⟩ = some (.int .u64 a0_0) := (blk_cell BK458.out 0).trans rfl; have hcz10_1 : w7.cell? ⟨gb458, 1, none⟩ = some (.int .u64 a0_1) := (blk_cell BK458.out 1).trans rfl; have hfz10_0 := blk_frozen BK458.out 0; have hfz10_1 := blk_frozen BK458.out 1; obtain ⟨hnb11, hnc11⟩ := n2 NB459_460; have hcz12_0 : w7.cell? ⟨gb459, 0, none⟩ = some (.int .u64 a1_0) := (blk_cell BK459.out 0).trans rfl; have hcz12_1 : w7.cell? ⟨gb459, 1, none⟩ = some (.int .u64 a1_1) := (blk_cell BK459.out 1).trans rfl; have hfz12_0 := blk_frozen BK459.out 0; have hfz12_1 := blk_frozen BK459.out 1) | ((with_reducible refine gate_callee (f := 73) rfl ?_); refine goesX_ (some 14) rfl rfl Try.func73 (by kernel_rfl) rfl #[.int .u64 a0_1, .int .u64 a1_1, .int .u64 0] rfl (by (try simp only [List.map_toArray, List.map_cons, List.map_nil]); first | done | rfl | (simp only [List.length_drop, List.length_take]; rfl)) ?_; (with_reducible refine (bits_Add64.calls a0_1 a1_1 0 t461 t462 _ A3.out).mono ?_); rintro e w13 ⟨rfl, hb⟩; refine ⟨_, rfl, ?_⟩; replace BK458 := kb BK458 hb; replace BK459 := kb BK459 hb; replace BK460 := kb BK460 hb; replace HB := wb HB hb; (try clear hb); (try clear hb2); (try clear hk); (try clear hi); have hcz14_0 : w13.cell? ⟨gb458, 0, none⟩ = some (.int .u64 a0_0) := (blk_cell BK458.out 0).trans rfl; have hcz14_1 : w13.cell? ⟨gb458, 1, none⟩ = some (.int .u64 a0_1) := (blk_cell BK458.out 1).trans rfl; have hfz14_0 := blk_frozen BK458.out 0; have hfz14_1 := blk_frozen BK458.out 1; have hcz15_0 : w13.cell? ⟨gb459, 0, none⟩ = some (.int .u64 a1_0) := (blk_cell BK459.out 0).trans rfl; have hcz15_1 : w13.cell? ⟨gb459, 1, none⟩ = some (.int .u64 a1_1) := (blk_cell BK459.out 1).trans rfl; have hfz15_0 := blk_frozen BK459.out 0; have hfz15_1 := blk_frozen BK459.out 1) | ((with_reducible refine gate_callee (f := 73) rfl ?_); refine goesX_ (some 23) rfl rfl Try.func73 (by kernel_rfl) rfl #[.int .u64 a0_0, .int .u64 a1_0, .int .u64 t462] rfl (by (try simp only [List.map_toArray, List.map_cons, List.map_nil]); first | done | rfl | (simp only [List.length_drop, List.length_take]; rfl)) ?_; (with_reducible refine (bits_Add64.calls a0_0 a1_0 t462 t463 t464 _ A4.out).mono ?_); rintro e w16 ⟨rfl, hb⟩; refine ⟨_, rfl, ?_⟩; replace BK458 := kb BK458 hb; replace BK459 := kb BK459 hb; replace BK460 := kb BK460 hb; replace HB := wb HB hb; (try clear hb); (try clear hb2); (try clear hk); (try clear hi); have hcz17_0 : w16.cell? ⟨gb460, 0, none⟩ = some (.int .u64 0) := (blk_cell BK460.out 0).trans rfl; have hcz17_1 : w16.cell? ⟨gb460, 1, none⟩ = some (.int .u64 0) := (blk_cell BK460.out 1).trans rfl; have hfz17_0 := blk_frozen BK460.out 0; have hfz17_1 := blk_frozen BK460.out 1))
  refine bodyPost_ret (results_cell_row rfl _ _ gb460 61 #[.int .u64 t463, .int .u64 t461] (0, 0) _ rfl (by refine pe ?_; refine blk_put (cs := #[.int .u64 t463, .int .u64 0]) ?_ 1 _ rfl; refine pe ?_; refine blk_put (cs := #[.int .u64 0, .int .u64 0]) ?_ 0 _ rfl; refine pe ?_; exact BK460.out) Try.underlying61 rfl (by kernel_rfl)) rfl ?_
  exact ⟨by first | rfl | (simp [errW_none, errW_some] <;> rfl) | (simp [*, errW_none, errW_some] <;> rfl), bw HB⟩

end Go.Proofs.Ytcbohbeipgcfhaa.G
