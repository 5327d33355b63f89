-- Printed by gp.py (a program of this session's own, over the kit's printer) out of the translation; Lean checks it.
import Derived.Test.YtcbohbeipgcfhaaG0
namespace Go.Proofs.Ytcbohbeipgcfhaa.G
open Go.Proofs.Ytcbohbeipgcfhaa.Given Go.Proofs.Ytcbohbeipgcfhaa.Short
open Go.RowKit Go.Proofs.YtcbohbeipgcfhaaW.PrintWords Go.Proofs.YtcbohbeipgcfhaaW.PrintLast Go.Proofs.YtcbohbeipgcfhaaW.PrintMore
attribute [local go_sem] max2_int min2_int max_two min_two max_three min_three max_four min_four   -- for this text's walks alone
set_option linter.unusedVariables false
set_option linter.unusedSimpArgs false

/-! ### awardingbodyref01_Minus: function 71 -/
def awardingbodyref01_Minus.f (a0_0 : Int) (a0_1 : Int) (a1_0 : Int) (a1_1 : Int) : Option (Int × Int) := (bits_Sub64.f a0_1 a1_1 0).bind fun bt212 => ((bits_Sub64.f a0_0 a1_0 bt212.2).bind fun bt214 => (some (bt214.1, bt212.1)))
set_option maxHeartbeats 8000000 in
set_option maxRecDepth 100000 in
theorem awardingbodyref01_Minus.calls (a0_0 : Int) (a0_1 : Int) (a1_0 : Int) (a1_1 : Int) (r1 : Int) (r2 : Int) (w : World) (h : awardingbodyref01_Minus.f a0_0 a0_1 a1_0 a1_1 = some (r1, r2)) :
    Calls Try.prog 71 #[.agg #[.int .u64 a0_0, .int .u64 a0_1], .agg #[.int .u64 a1_0, .int .u64 a1_1]] w fun e w' => e = .returned (.agg #[.int .u64 r1, .int .u64 r2]) ∧ Below w.heap.size w w' := by
  have hu61 := Try.underlying61
  have HB := Aside0.mk (Below.refl w.heap.size w)
  have H : ((bits_Sub64.f a0_1 a1_1 0).bind fun bt212 => ((bits_Sub64.f a0_0 a1_0 bt212.2).bind fun bt214 => (some (bt214.1, bt212.1)))) = some (r1, r2) := h
  clear h
  replace H := Option.bind_eq_some_iff.mp H
  obtain ⟨⟨t212, t213⟩, A30, H⟩ := H
  replace H : ((bits_Sub64.f a0_0 a1_0 t213).bind fun bt214 => (some (bt214.1, t212))) = some (r1, r2) := H
  have A3 := Aside0.mk A30
  clear A30
  replace H := Option.bind_eq_some_iff.mp H
  obtain ⟨⟨t214, t215⟩, A40, H⟩ := H
  replace H : (some (t214, t212)) = some (r1, r2) := H
  have A4 := Aside0.mk A40
  clear A40
  simp only [Option.some.injEq, Prod.mk.injEq] at H
  obtain ⟨rfl, rfl⟩ := H
  go_enter Try.func71, Try.ntmps71
  go_wp2_with (first | ((with_reducible refine gate_dst (N := 2) rfl ?_); refine box_event ?hg (N := 2) ?hd (cs := #[.int .u64 a0_0, .int .u64 a0_1]) (t := 61) ?hr ?_; (case hd => rfl); (case hg => rfl); (case hr => first | (go_simp; done) | (go_simp; rfl)); intro gb209 hg w5 hbox hb; have BK209 := Aside0.mk (hbox); have GW209 := gs HB hg; have GE209 := gs HB hg; replace HB := wb HB hb; clear hb hbox hg) | ((with_reducible refine gate_dst (N := 3) rfl ?_); refine box_event ?hg (N := 3) ?hd (cs := #[.int .u64 a1_0, .int .u64 a1_1]) (t := 61) ?hr ?_; (case hd => rfl); (case hg => rfl); (case hr => first | (go_simp; done) | (go_simp; rfl)); intro gb210 hg w6 hbox hb; have BK210 := Aside0.mk (hbox); have GW210 := gs HB hg; have GE210 := gs HB hg; have NB209_210 := nl BK209 hg; have NB210_209 := nr BK209 hg; replace BK209 := kb BK209 hb; replace HB := wb HB hb; clear hb hbox hg) | ((with_reducible refine gate_dst (N := 4) rfl ?_); refine box_event ?hg (N := 4) ?hd (cs := #[.int .u64 0, .int .u64 0]) (t := 61) ?hr ?_; (case hd => rfl); (case hg => rfl); (case hr => first | (go_simp; done) | (go_simp; rfl)); intro gb211 hg w7 hbox hb; have BK211 := Aside0.mk (hbox); have GW211 := gs HB hg; have GE211 := gs HB hg; have NB209_211 := nl BK209 hg; have NB211_209 := nr BK209 hg; have NB210_211 := nl BK210 hg; have NB211_210 := nr BK210 hg; replace BK209 := kb BK209 hb; replace BK210 := kb BK210 hb; replace HB := wb HB hb; clear hb hbox hg; obtain ⟨hnb8, hnc8⟩ := n2 NB209_210; obtain ⟨hnb9, hnc9⟩ := n2 NB209_211; have hcz10_0 : w7.cell? ⟨gb209, 0, none⟩ = some (.int .u64 a0_0) := (blk_cell BK209.out 0).trans rfl; have hcz10_1 : w7.cell? ⟨gb209, 1, none⟩ = some (.int .u64 a0_1) := (blk_cell BK209.out 1).trans rfl; have hfz10_0 := blk_frozen BK209.out 0; have hfz10_1 := blk_frozen BK209.out 1; obtain ⟨hnb11, hnc11⟩ := n2 NB210_211; have hcz12_0 : w7.cell? ⟨gb210, 0, none⟩ = some (.int .u64 a1_0) := (blk_cell BK210.out 0).trans rfl; have hcz12_1 : w7.cell? ⟨gb210, 1, none⟩ = some (.int .u64 a1_1) := (blk_cell BK210.out 1).trans rfl; have hfz12_0 := blk_frozen BK210.out 0; have hfz12_1 := blk_frozen BK210.out 1) | ((with_reducible refine gate_callee (f := 74) rfl ?_); refine goesX_ (some 14) rfl rfl Try.func74 (by kernel_rfl) rfl #[.int .u64 a0_1, .int .u64 a1_1, .int .u64 0] rfl (by (try simp only [List.map_toArray, List.map_cons, List.map_nil]); first | done | rfl | (simp only [List.length_drop, List.length_take]; rfl)) ?_; (with_reducible refine (bits_Sub64.calls a0_1 a1_1 0 t212 t213 _ A3.out).mono ?_); rintro e w13 ⟨rfl, hb⟩; refine ⟨_, rfl, ?_⟩; replace BK209 := kb BK209 hb; replace BK210 := kb BK210 hb; replace BK211 := kb BK211 hb; replace HB := wb HB hb; (try clear hb); (try clear hb2); (try clear hk); (try clear hi); have hcz14_0 : w13.cell? ⟨gb209, 0, none⟩ = some (.int .u64 a0_0) := (blk_cell BK209.out 0).trans rfl; have hcz14_1 : w13.cell? ⟨gb209, 1, none⟩ = some (.int .u64 a0_1) := (blk_cell BK209.out 1).trans rfl; have hfz14_0 := blk_frozen BK209.out 0; have hfz14_1 := blk_frozen BK209.out 1; have hcz15_0 : w13.cell? ⟨gb210, 0, none⟩ = some (.int .u64 a1_0) := (blk_cell BK210.out 0).trans rfl; have hcz15_1 : w13.cell? ⟨gb210, 1, none⟩ = some (.int .u64 a1_1) := (blk_cell BK210.out 1).trans rfl; have hfz15_0 := blk_frozen BK210.out 0; have hfz15_1 := blk_frozen BK210.out 1) | ((with_reducible refine gate_callee (f := 74) rfl ?_); refine goesX_ (some 23) rfl rfl Try.func74 (by kernel_rfl) rfl #[.int .u64 a0_0, .int .u64 a1_0, .int .u64 t213] rfl (by (try simp only [List.map_toArray, List.map_cons, List.map_nil]); first | done | rfl | (simp only [List.length_drop, List.length_take]; rfl)) ?_; (with_reducible refine (bits_Sub64.calls a0_0 a1_0 t213 t214 t215 _ A4.out).mono ?_); rintro e w16 ⟨rfl, hb⟩; refine ⟨_, rfl, ?_⟩; replace BK209 := kb BK209 hb; replace BK210 := kb BK210 hb; replace BK211 := kb BK211 hb; replace HB := wb HB hb; (try clear hb); (try clear hb2); (try clear hk); (try clear hi); have hcz17_0 : w16.cell? ⟨gb211, 0, none⟩ = some (.int .u64 0) := (blk_cell BK211.out 0).trans rfl; have hcz17_1 : w16.cell? ⟨gb211, 1, none⟩ = some (.int .u64 0) := (blk_cell BK211.out 1).trans rfl; have hfz17_0 := blk_frozen BK211.out 0; have hfz17_1 := blk_frozen BK211.out 1))
  refine bodyPost_ret (results_cell_row rfl _ _ gb211 61 #[.int .u64 t214, .int .u64 t212] (0, 0) _ rfl (by refine pe ?_; refine blk_put (cs := #[.int .u64 t214, .int .u64 0]) ?_ 1 _ rfl; refine pe ?_; refine blk_put (cs := #[.int .u64 0, .int .u64 0]) ?_ 0 _ rfl; refine pe ?_; exact BK211.out) Try.underlying61 rfl (by kernel_rfl)) rfl ?_
  exact ⟨by first | rfl | (simp [errW_none, errW_some] <;> rfl) | (simp [*, errW_none, errW_some] <;> rfl), bw HB⟩

end Go.Proofs.Ytcbohbeipgcfhaa.G
