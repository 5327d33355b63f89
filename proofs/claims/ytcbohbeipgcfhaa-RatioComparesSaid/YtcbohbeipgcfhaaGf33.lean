-- Printed by gp.py (a program of this session's own, over the kit's printer) out of the translation; Lean checks it.
import Derived.Test.YtcbohbeipgcfhaaG0
import Derived.Test.YtcbohbeipgcfhaaGf31
namespace Go.Proofs.Ytcbohbeipgcfhaa.G
open Go.Proofs.Ytcbohbeipgcfhaa.Given Go.Proofs.Ytcbohbeipgcfhaa.Short
open Go.RowKit Go.Proofs.YtcbohbeipgcfhaaW.PrintWords Go.Proofs.YtcbohbeipgcfhaaW.PrintLast Go.Proofs.YtcbohbeipgcfhaaW.PrintMore
attribute [local go_sem] max2_int min2_int max_two min_two max_three min_three max_four min_four   -- for this text's walks alone
set_option linter.unusedVariables false
set_option linter.unusedSimpArgs false

/-! ### ratio_Less: function 33 -/
def ratio_Less.f (k : Nat) (a0_0 : Int) (a0_1 : Int) (a1_0 : Int) (a1_1 : Int) : Option (Bool) := (ratio_Compare.f k a0_0 a0_1 a1_0 a1_1).bind fun t493 => (some (t493 == (-1)))
theorem ratio_Less.mono : ∀ a0 a1 a2 a3 k, LeO (ratio_Less.f k a0 a1 a2 a3) (ratio_Less.f (k + 1) a0 a1 a2 a3) := by
  intro a0 a1 a2 a3 k
  unfold ratio_Less.f
  repeat' first
      | (with_reducible exact ratio_Compare.mono _ _ _ _ _)
      | (with_reducible exact LeO.refl _)
      | (with_reducible exact LeO.none _)
      | (with_reducible refine LeO.ite ?_ ?_)
      | (with_reducible refine LeO.bind ?_ (fun _ => ?_))
      | exact ratio_Compare.mono _ _ _ _ _
      | exact LeO.none _
      | refine LeO.ite ?_ ?_
      | refine LeO.bind ?_ (fun _ => ?_)
set_option maxHeartbeats 8000000 in
set_option maxRecDepth 100000 in
theorem ratio_Less.calls (k : Nat) (a0_0 : Int) (a0_1 : Int) (a1_0 : Int) (a1_1 : Int) (r : Bool) (w : World) (h : ratio_Less.f k a0_0 a0_1 a1_0 a1_1 = some r) :
    Calls Try.prog 33 #[.agg #[.int .i64 a0_0, .int .i64 a0_1], .agg #[.int .i64 a1_0, .int .i64 a1_1]] w fun e w' => e = .returned (.bool r) ∧ Below w.heap.size w w' := by
  have hu35 := Try.underlying35
  have HB := Aside0.mk (Below.refl w.heap.size w)
  have H : ((ratio_Compare.f k a0_0 a0_1 a1_0 a1_1).bind fun t493 => (some (t493 == (-1)))) = some r := h
  clear h
  replace H := Option.bind_eq_some_iff.mp H
  obtain ⟨t493, A30, H⟩ := H
  replace H : (some (t493 == (-1))) = some r := H
  have A3 := Aside0.mk A30
  clear A30
  obtain rfl := Option.some.inj H
  go_enter Try.func33, Try.ntmps33
  go_wp2_with (first | ((with_reducible refine gate_dst (N := 2) rfl ?_); refine box_event ?hg (N := 2) ?hd (cs := #[.int .i64 a0_0, .int .i64 a0_1]) (t := 35) ?hr ?_; (case hd => rfl); (case hg => rfl); (case hr => first | (go_simp; done) | (go_simp; rfl)); intro gb491 hg w4 hbox hb; have BK491 := Aside0.mk (hbox); have GW491 := gs HB hg; have GE491 := gs HB hg; replace HB := wb HB hb; clear hb hbox hg) | ((with_reducible refine gate_dst (N := 3) rfl ?_); refine box_event ?hg (N := 3) ?hd (cs := #[.int .i64 a1_0, .int .i64 a1_1]) (t := 35) ?hr ?_; (case hd => rfl); (case hg => rfl); (case hr => first | (go_simp; done) | (go_simp; rfl)); intro gb492 hg w5 hbox hb; have BK492 := Aside0.mk (hbox); have GW492 := gs HB hg; have GE492 := gs HB hg; have NB491_492 := nl BK491 hg; have NB492_491 := nr BK491 hg; replace BK491 := kb BK491 hb; replace HB := wb HB hb; clear hb hbox hg; obtain ⟨hnb6, hnc6⟩ := n2 NB491_492; have hcz7_0 : w5.cell? ⟨gb491, 0, none⟩ = some (.int .i64 a0_0) := (blk_cell BK491.out 0).trans rfl; have hcz7_1 : w5.cell? ⟨gb491, 1, none⟩ = some (.int .i64 a0_1) := (blk_cell BK491.out 1).trans rfl; have hfz7_0 := blk_frozen BK491.out 0; have hfz7_1 := blk_frozen BK491.out 1; have hcz8_0 : w5.cell? ⟨gb492, 0, none⟩ = some (.int .i64 a1_0) := (blk_cell BK492.out 0).trans rfl; have hcz8_1 : w5.cell? ⟨gb492, 1, none⟩ = some (.int .i64 a1_1) := (blk_cell BK492.out 1).trans rfl; have hfz8_0 := blk_frozen BK492.out 0; have hfz8_1 := blk_frozen BK492.out 1) | ((with_reducible refine gate_callee (f := 31) rfl ?_); refine goesL_ (some 7) rfl rfl Try.func31 (by kernel_rfl) rfl #[.agg #[.int .i64 a0_0, .int .i64 a0_1], .agg #[.int .i64 a1_0, .int .i64 a1_1]] rfl (by (try simp only [List.map_toArray, List.map_cons, List.map_nil]); first | done | rfl | (simp only [List.length_drop, List.length_take]; rfl)) ?_; (with_reducible refine (ratio_Compare.calls k a0_0 a0_1 a1_0 a1_1 t493 _ A3.out).mono ?_); rintro e w9 ⟨rfl, hb⟩; refine ⟨_, rfl, ?_⟩; replace BK491 := kb BK491 hb; replace BK492 := kb BK492 hb; replace HB := wb HB hb; (try clear hb); (try clear hb2); (try clear hk); (try clear hi)))
  go_ret
  exact ⟨by first | rfl | (simp [errW_none, errW_some] <;> rfl) | (simp [*, errW_none, errW_some] <;> rfl), bw HB⟩

end Go.Proofs.Ytcbohbeipgcfhaa.G
