-- Printed by gp.py (a program of this session's own, over the kit's printer) out of the translation; Lean checks it.
import Derived.Test.YtcbohbeipgcfhaaG0
import Derived.Test.YtcbohbeipgcfhaaGf53
import Derived.Test.YtcbohbeipgcfhaaGf63
namespace Go.Proofs.Ytcbohbeipgcfhaa.G
open Go.Proofs.Ytcbohbeipgcfhaa.Given Go.Proofs.Ytcbohbeipgcfhaa.Short
open Go.RowKit Go.Proofs.YtcbohbeipgcfhaaW.PrintWords Go.Proofs.YtcbohbeipgcfhaaW.PrintLast Go.Proofs.YtcbohbeipgcfhaaW.PrintMore
attribute [local go_sem] max2_int min2_int max_two min_two max_three min_three max_four min_four   -- for this text's walks alone
set_option linter.unusedVariables false
set_option linter.unusedSimpArgs false

/-! ### awardingbodyref01_Reduce: function 50 -/
def awardingbodyref01_Reduce.j0 : Nat → Bool → Bool → Int → Int → Int → Int → Option (Int × Int × Int)
  | 0, _, _, _, _, _, _ => none
  | k + 1, x0, x46, x253000, x253001, x259000, x259001 => if x46 = true then (some (0, 0, 6)) else (if x0 = true then (some (wrap64 (-(wrap64 (x253001))), wrap64 (x259001), 0)) else (some (wrap64 (x253001), wrap64 (x259001), 0)))
def awardingbodyref01_Reduce.f (k : Nat) (a0 : Bool) (a1_0 : Int) (a1_1 : Int) (a2_0 : Int) (a2_1 : Int) : Option (Int × Int × Int) := (awardingbodyref01_Divisor.f k a1_0 a1_1 a2_0 a2_1).bind fun bt245 => ((awardingbodyref01_Divide.f k a1_0 a1_1 bt245.1 bt245.2).bind fun bt248 => ((awardingbodyref01_Divide.f k a2_0 a2_1 bt245.1 bt245.2).bind fun bt254 => (if bt248.1 > 0 then (awardingbodyref01_Reduce.j0 k a0 true bt248.1 bt248.2.1 bt254.1 bt254.2.1) else (if bt254.1 > 0 then (awardingbodyref01_Reduce.j0 k a0 true bt248.1 bt248.2.1 bt254.1 bt254.2.1) else (if bt248.2.1 > 1152921504606846976 then (awardingbodyref01_Reduce.j0 k a0 true bt248.1 bt248.2.1 bt254.1 bt254.2.1) else (awardingbodyref01_Reduce.j0 k a0 (decide (bt254.2.1 > 1152921504606846976)) bt248.1 bt248.2.1 bt254.1 bt254.2.1))))))
theorem awardingbodyref01_Reduce.mono_l : ∀ k, (∀ y0 y1 y2 y3 y4 y5, LeO (awardingbodyref01_Reduce.j0 k y0 y1 y2 y3 y4 y5) (awardingbodyref01_Reduce.j0 (k + 1) y0 y1 y2 y3 y4 y5))
  | 0 => fun _ _ _ _ _ _ r h => by simp [awardingbodyref01_Reduce.j0] at h
  | k + 1 => by
    have ih0 := awardingbodyref01_Reduce.mono_l k
    · intro y0 y1 y2 y3 y4 y5
      unfold awardingbodyref01_Reduce.j0
      repeat' first
      | (with_reducible exact ih0 _ _ _ _ _ _)
      | (with_reducible exact awardingbodyref01_Divide.mono _ _ _ _ _)
      | (with_reducible exact awardingbodyref01_Divisor.mono _ _ _ _ _)
      | (with_reducible exact LeO.refl _)
      | (with_reducible exact LeO.none _)
      | (with_reducible refine LeO.ite ?_ ?_)
      | (with_reducible refine LeO.bind ?_ (fun _ => ?_))
      | exact ih0 _ _ _ _ _ _
      | exact awardingbodyref01_Divide.mono _ _ _ _ _
      | exact awardingbodyref01_Divisor.mono _ _ _ _ _
      | exact LeO.none _
      | refine LeO.ite ?_ ?_
      | refine LeO.bind ?_ (fun _ => ?_)
theorem awardingbodyref01_Reduce.mono : ∀ a0 a1 a2 a3 a4 k, LeO (awardingbodyref01_Reduce.f k a0 a1 a2 a3 a4) (awardingbodyref01_Reduce.f (k + 1) a0 a1 a2 a3 a4) := by
  intro a0 a1 a2 a3 a4 k
  have ih0 := awardingbodyref01_Reduce.mono_l k
  unfold awardingbodyref01_Reduce.f
  repeat' first
      | (with_reducible exact ih0 _ _ _ _ _ _)
      | (with_reducible exact awardingbodyref01_Divide.mono _ _ _ _ _)
      | (with_reducible exact awardingbodyref01_Divisor.mono _ _ _ _ _)
      | (with_reducible exact LeO.refl _)
      | (with_reducible exact LeO.none _)
      | (with_reducible refine LeO.ite ?_ ?_)
      | (with_reducible refine LeO.bind ?_ (fun _ => ?_))
      | exact ih0 _ _ _ _ _ _
      | exact awardingbodyref01_Divide.mono _ _ _ _ _
      | exact awardingbodyref01_Divisor.mono _ _ _ _ _
      | exact LeO.none _
      | refine LeO.ite ?_ ?_
      | refine LeO.bind ?_ (fun _ => ?_)
set_option maxHeartbeats 8000000 in
set_option maxRecDepth 100000 in
theorem awardingbodyref01_Reduce.calls (k : Nat) (a0 : Bool) (a1_0 : Int) (a1_1 : Int) (a2_0 : Int) (a2_1 : Int) (r1 : Int) (r2 : Int) (r3 : Int) (w : World) (h : awardingbodyref01_Reduce.f k a0 a1_0 a1_1 a2_0 a2_1 = some (r1, r2, r3)) :
    Calls Try.prog 50 #[.bool a0, .agg #[.int .u64 a1_0, .int .u64 a1_1], .agg #[.int .u64 a2_0, .int .u64 a2_1]] w fun e w' => e = .returned (.tuple #[.agg #[.int .i64 r1, .int .i64 r2], .int .i64 r3]) ∧ Below w.heap.size w w' := by
  have hu61 := Try.underlying61
  have hu35 := Try.underlying35
  have HB := Aside0.mk (Below.refl w.heap.size w)
  have H : ((awardingbodyref01_Divisor.f k a1_0 a1_1 a2_0 a2_1).bind fun bt245 => ((awardingbodyref01_Divide.f k a1_0 a1_1 bt245.1 bt245.2).bind fun bt248 => ((awardingbodyref01_Divide.f k a2_0 a2_1 bt245.1 bt245.2).bind fun bt254 => (if bt248.1 > 0 then (awardingbodyref01_Reduce.j0 k a0 true bt248.1 bt248.2.1 bt254.1 bt254.2.1) else (if bt254.1 > 0 then (awardingbodyref01_Reduce.j0 k a0 true bt248.1 bt248.2.1 bt254.1 bt254.2.1) else (if bt248.2.1 > 1152921504606846976 then (awardingbodyref01_Reduce.j0 k a0 true bt248.1 bt248.2.1 bt254.1 bt254.2.1) else (awardingbodyref01_Reduce.j0 k a0 (decide (bt254.2.1 > 1152921504606846976)) bt248.1 bt248.2.1 bt254.1 bt254.2.1))))))) = some (r1, r2, r3) := h
  clear h
  replace H := Option.bind_eq_some_iff.mp H
  obtain ⟨⟨t245, t246⟩, A40, H⟩ := H
  replace H : ((awardingbodyref01_Divide.f k a1_0 a1_1 t245 t246).bind fun bt248 => ((awardingbodyref01_Divide.f k a2_0 a2_1 t245 t246).bind fun bt254 => (if bt248.1 > 0 then (awardingbodyref01_Reduce.j0 k a0 true bt248.1 bt248.2.1 bt254.1 bt254.2.1) else (if bt254.1 > 0 then (awardingbodyref01_Reduce.j0 k a0 true bt248.1 bt248.2.1 bt254.1 bt254.2.1) else (if bt248.2.1 > 1152921504606846976 then (awardingbodyref01_Reduce.j0 k a0 true bt248.1 bt248.2.1 bt254.1 bt254.2.1) else (awardingbodyref01_Reduce.j0 k a0 (decide (bt254.2.1 > 1152921504606846976)) bt248.1 bt248.2.1 bt254.1 bt254.2.1)))))) = some (r1, r2, r3) := H
  have A4 := Aside0.mk A40
  clear A40
  replace H := Option.bind_eq_some_iff.mp H
  obtain ⟨⟨t248, t249, t250, t251⟩, A50, H⟩ := H
  replace H : ((awardingbodyref01_Divide.f k a2_0 a2_1 t245 t246).bind fun bt254 => (if t248 > 0 then (awardingbodyref01_Reduce.j0 k a0 true t248 t249 bt254.1 bt254.2.1) else (if bt254.1 > 0 then (awardingbodyref01_Reduce.j0 k a0 true t248 t249 bt254.1 bt254.2.1) else (if t249 > 1152921504606846976 then (awardingbodyref01_Reduce.j0 k a0 true t248 t249 bt254.1 bt254.2.1) else (awardingbodyref01_Reduce.j0 k a0 (decide (bt254.2.1 > 1152921504606846976)) t248 t249 bt254.1 bt254.2.1))))) = some (r1, r2, r3) := H
  have A5 := Aside0.mk A50
  clear A50
  replace H := Option.bind_eq_some_iff.mp H
  obtain ⟨⟨t254, t255, t256, t257⟩, A60, H⟩ := H
  replace H : (if t248 > 0 then (awardingbodyref01_Reduce.j0 k a0 true t248 t249 t254 t255) else (if t254 > 0 then (awardingbodyref01_Reduce.j0 k a0 true t248 t249 t254 t255) else (if t249 > 1152921504606846976 then (awardingbodyref01_Reduce.j0 k a0 true t248 t249 t254 t255) else (awardingbodyref01_Reduce.j0 k a0 (decide (t255 > 1152921504606846976)) t248 t249 t254 t255)))) = some (r1, r2, r3) := H
  have A6 := Aside0.mk A60
  clear A60
  have HC7 := Aside0.mk H
  clear H
  go_enter Try.func50, Try.ntmps50
  go_upto_region 4 with (first | ((with_reducible refine gate_dst (N := 4) rfl ?_); refine box_event ?hg (N := 4) ?hd (cs := #[.int .u64 a1_0, .int .u64 a1_1]) (t := 61) ?hr ?_; (case hd => rfl); (case hg => rfl); (case hr => first | (go_simp; done) | (go_simp; rfl)); intro gb242 hg w8 hbox hb; have BK242 := Aside0.mk (hbox); have GW242 := gs HB hg; have GE242 := gs HB hg; replace HB := wb HB hb; clear hb hbox hg) | ((with_reducible refine gate_dst (N := 5) rfl ?_); refine box_event ?hg (N := 5) ?hd (cs := #[.int .u64 a2_0, .int .u64 a2_1]) (t := 61) ?hr ?_; (case hd => rfl); (case hg => rfl); (case hr => first | (go_simp; done) | (go_simp; rfl)); intro gb243 hg w9 hbox hb; have BK243 := Aside0.mk (hbox); have GW243 := gs HB hg; have GE243 := gs HB hg; have NB242_243 := nl BK242 hg; have NB243_242 := nr BK242 hg; replace BK242 := kb BK242 hb; replace HB := wb HB hb; clear hb hbox hg) | ((with_reducible refine gate_dst (N := 6) rfl ?_); refine box_event ?hg (N := 6) ?hd (cs := #[.int .i64 0, .int .i64 0]) (t := 35) ?hr ?_; (case hd => rfl); (case hg => rfl); (case hr => first | (go_simp; done) | (go_simp; rfl)); intro gb244 hg w10 hbox hb; have BK244 := Aside0.mk (hbox); have GW244 := gs HB hg; have GE244 := gs HB hg; have NB242_244 := nl BK242 hg; have NB244_242 := nr BK242 hg; have NB243_244 := nl BK243 hg; have NB244_243 := nr BK243 hg; replace BK242 := kb BK242 hb; replace BK243 := kb BK243 hb; replace HB := wb HB hb; clear hb hbox hg; obtain ⟨hnb11, hnc11⟩ := n2 NB242_243; obtain ⟨hnb12, hnc12⟩ := n2 NB242_244; have hcz13_0 : w10.cell? ⟨gb242, 0, none⟩ = some (.int .u64 a1_0) := (blk_cell BK242.out 0).trans rfl; have hcz13_1 : w10.cell? ⟨gb242, 1, none⟩ = some (.int .u64 a1_1) := (blk_cell BK242.out 1).trans rfl; have hfz13_0 := blk_frozen BK242.out 0; have hfz13_1 := blk_frozen BK242.out 1; obtain ⟨hnb14, hnc14⟩ := n2 NB243_244; have hcz15_0 : w10.cell? ⟨gb243, 0, none⟩ = some (.int .u64 a2_0) := (blk_cell BK243.out 0).trans rfl; have hcz15_1 : w10.cell? ⟨gb243, 1, none⟩ = some (.int .u64 a2_1) := (blk_cell BK243.out 1).trans rfl; have hfz15_0 := blk_frozen BK243.out 0; have hfz15_1 := blk_frozen BK243.out 1) | ((with_reducible refine gate_callee (f := 53) rfl ?_); refine goesL_ (some 16) rfl rfl Try.func53 (by kernel_rfl) rfl #[.agg #[.int .u64 a1_0, .int .u64 a1_1], .agg #[.int .u64 a2_0, .int .u64 a2_1]] rfl (by (try simp only [List.map_toArray, List.map_cons, List.map_nil]); first | done | rfl | (simp only [List.length_drop, List.length_take]; rfl)) ?_; (with_reducible refine (awardingbodyref01_Divisor.calls k a1_0 a1_1 a2_0 a2_1 t245 t246 _ A4.out).mono ?_); rintro e w16 ⟨rfl, hb⟩; refine ⟨_, rfl, ?_⟩; replace BK242 := kb BK242 hb; replace BK243 := kb BK243 hb; replace BK244 := kb BK244 hb; replace HB := wb HB hb; (try clear hb); (try clear hb2); (try clear hk); (try clear hi)) | ((with_reducible refine gate_dst (N := 8) rfl ?_); refine box_event ?hg (N := 8) ?hd (cs := #[.int .u64 0, .int .u64 0]) (t := 61) ?hr ?_; (case hd => rfl); (case hg => rfl); (case hr => first | (go_simp; done) | (go_simp; rfl)); intro gb247 hg w17 hbox hb; have BK247 := Aside0.mk (hbox); have GW247 := gs HB hg; have GE247 := gs HB hg; have NB242_247 := nl BK242 hg; have NB247_242 := nr BK242 hg; have NB243_247 := nl BK243 hg; have NB247_243 := nr BK243 hg; have NB244_247 := nl BK244 hg; have NB247_244 := nr BK244 hg; replace BK242 := kb BK242 hb; replace BK243 := kb BK243 hb; replace BK244 := kb BK244 hb; replace HB := wb HB hb; clear hb hbox hg; obtain ⟨hnb18, hnc18⟩ := n2 NB247_242; obtain ⟨hnb19, hnc19⟩ := n2 NB247_243; obtain ⟨hnb20, hnc20⟩ := n2 NB247_244; have hcz21_0 : w17.cell? ⟨gb247, 0, none⟩ = some (.int .u64 0) := (blk_cell BK247.out 0).trans rfl; have hcz21_1 : w17.cell? ⟨gb247, 1, none⟩ = some (.int .u64 0) := (blk_cell BK247.out 1).trans rfl; have hfz21_0 := blk_frozen BK247.out 0; have hfz21_1 := blk_frozen BK247.out 1; have hcz22_0 : w17.cell? ⟨gb242, 0, none⟩ = some (.int .u64 a1_0) := (blk_cell BK242.out 0).trans rfl; have hcz22_1 : w17.cell? ⟨gb242, 1, none⟩ = some (.int .u64 a1_1) := (blk_cell BK242.out 1).trans rfl; have hfz22_0 := blk_frozen BK242.out 0; have hfz22_1 := blk_frozen BK242.out 1) | ((with_reducible refine gate_callee (f := 63) rfl ?_); refine goesL_ (some 20) rfl rfl Try.func63 (by kernel_rfl) rfl #[.agg #[.int .u64 a1_0, .int .u64 a1_1], .agg #[.int .u64 t245, .int .u64 t246]] rfl (by (try simp only [List.map_toArray, List.map_cons, List.map_nil]); first | done | rfl | (simp only [List.length_drop, List.length_take]; rfl)) ?_; (with_reducible refine (awardingbodyref01_Divide.calls k a1_0 a1_1 t245 t246 t248 t249 t250 t251 _ A5.out).mono ?_); rintro e w23 ⟨rfl, hb⟩; refine ⟨_, rfl, ?_⟩; replace BK242 := kb BK242 hb; replace BK243 := kb BK243 hb; replace BK244 := kb BK244 hb; replace BK247 := Aside0.mk (blk_below (g := gb247) (o := .cells #[.int .u64 t245, .int .u64 t246] 61 (0, 0)) (by refine pe ?_; refine blk_put (cs := #[.int .u64 t245, .int .u64 0]) ?_ 1 _ rfl; refine pe ?_; refine blk_put (cs := #[.int .u64 0, .int .u64 0]) ?_ 0 _ rfl; refine pe ?_; exact BK247.out) hb); replace HB := wb HB hb; (try clear hb); (try clear hb2); (try clear hk); (try clear hi)) | ((with_reducible refine gate_dst (N := 9) rfl ?_); refine box_event ?hg (N := 9) ?hd (cs := #[.int .u64 0, .int .u64 0]) (t := 61) ?hr ?_; (case hd => rfl); (case hg => rfl); (case hr => first | (go_simp; done) | (go_simp; rfl)); intro gb252 hg w24 hbox hb; have BK252 := Aside0.mk (hbox); have GW252 := gs HB hg; have GE252 := gs HB hg; have NB242_252 := nl BK242 hg; have NB252_242 := nr BK242 hg; have NB243_252 := nl BK243 hg; have NB252_243 := nr BK243 hg; have NB244_252 := nl BK244 hg; have NB252_244 := nr BK244 hg; have NB247_252 := nl BK247 hg; have NB252_247 := nr BK247 hg; replace BK242 := kb BK242 hb; replace BK243 := kb BK243 hb; replace BK244 := kb BK244 hb; replace BK247 := kb BK247 hb; replace HB := wb HB hb; clear hb hbox hg) | ((with_reducible refine gate_dst (N := 10) rfl ?_); refine box_event ?hg (N := 10) ?hd (cs := #[.int .u64 0, .int .u64 0]) (t := 61) ?hr ?_; (case hd => rfl); (case hg => rfl); (case hr => first | (go_simp; done) | (go_simp; rfl)); intro gb253 hg w25 hbox hb; have BK253 := Aside0.mk (hbox); have GW253 := gs HB hg; have GE253 := gs HB hg; have NB242_253 := nl BK242 hg; have NB253_242 := nr BK242 hg; have NB243_253 := nl BK243 hg; have NB253_243 := nr BK243 hg; have NB244_253 := nl BK244 hg; have NB253_244 := nr BK244 hg; have NB247_253 := nl BK247 hg; have NB253_247 := nr BK247 hg; have NB252_253 := nl BK252 hg; have NB253_252 := nr BK252 hg; replace BK242 := kb BK242 hb; replace BK243 := kb BK243 hb; replace BK244 := kb BK244 hb; replace BK247 := kb BK247 hb; replace BK252 := kb BK252 hb; replace HB := wb HB hb; clear hb hbox hg; obtain ⟨hnb26, hnc26⟩ := n2 NB252_242; obtain ⟨hnb27, hnc27⟩ := n2 NB252_243; obtain ⟨hnb28, hnc28⟩ := n2 NB252_244; obtain ⟨hnb29, hnc29⟩ := n2 NB252_247; obtain ⟨hnb30, hnc30⟩ := n2 NB252_253; have hcz31_0 : w25.cell? ⟨gb252, 0, none⟩ = some (.int .u64 0) := (blk_cell BK252.out 0).trans rfl; have hcz31_1 : w25.cell? ⟨gb252, 1, none⟩ = some (.int .u64 0) := (blk_cell BK252.out 1).trans rfl; have hfz31_0 := blk_frozen BK252.out 0; have hfz31_1 := blk_frozen BK252.out 1; obtain ⟨hnb32, hnc32⟩ := n2 NB253_242; obtain ⟨hnb33, hnc33⟩ := n2 NB253_243; obtain ⟨hnb34, hnc34⟩ := n2 NB253_244; obtain ⟨hnb35, hnc35⟩ := n2 NB253_247; have hcz36_0 : w25.cell? ⟨gb253, 0, none⟩ = some (.int .u64 0) := (blk_cell BK253.out 0).trans rfl; have hcz36_1 : w25.cell? ⟨gb253, 1, none⟩ = some (.int .u64 0) := (blk_cell BK253.out 1).trans rfl; have hfz36_0 := blk_frozen BK253.out 0; have hfz36_1 := blk_frozen BK253.out 1; have hcz37_0 : w25.cell? ⟨gb243, 0, none⟩ = some (.int .u64 a2_0) := (blk_cell BK243.out 0).trans rfl; have hcz37_1 : w25.cell? ⟨gb243, 1, none⟩ = some (.int .u64 a2_1) := (blk_cell BK243.out 1).trans rfl; have hfz37_0 := blk_frozen BK243.out 0; have hfz37_1 := blk_frozen BK243.out 1; have hcz38_0 : w25.cell? ⟨gb247, 0, none⟩ = some (.int .u64 t245) := (blk_cell BK247.out 0).trans rfl; have hcz38_1 : w25.cell? ⟨gb247, 1, none⟩ = some (.int .u64 t246) := (blk_cell BK247.out 1).trans rfl; have hfz38_0 := blk_frozen BK247.out 0; have hfz38_1 := blk_frozen BK247.out 1) | ((with_reducible refine gate_callee (f := 63) rfl ?_); refine goesL_ (some 26) rfl rfl Try.func63 (by kernel_rfl) rfl #[.agg #[.int .u64 a2_0, .int .u64 a2_1], .agg #[.int .u64 t245, .int .u64 t246]] rfl (by (try simp only [List.map_toArray, List.map_cons, List.map_nil]); first | done | rfl | (simp only [List.length_drop, List.length_take]; rfl)) ?_; (with_reducible refine (awardingbodyref01_Divide.calls k a2_0 a2_1 t245 t246 t254 t255 t256 t257 _ A6.out).mono ?_); rintro e w39 ⟨rfl, hb⟩; refine ⟨_, rfl, ?_⟩; replace BK242 := kb BK242 hb; replace BK243 := kb BK243 hb; replace BK244 := kb BK244 hb; replace BK247 := kb BK247 hb; replace BK252 := Aside0.mk (blk_below (g := gb252) (o := .cells #[.int .u64 t248, .int .u64 t249] 61 (0, 0)) (by refine pe ?_; refine blk_far ?_ NB252_253.out _; refine pe ?_; refine blk_far ?_ NB252_253.out _; refine pe ?_; refine blk_put (cs := #[.int .u64 t248, .int .u64 0]) ?_ 1 _ rfl; refine pe ?_; refine blk_put (cs := #[.int .u64 0, .int .u64 0]) ?_ 0 _ rfl; refine pe ?_; exact BK252.out) hb); replace BK253 := Aside0.mk (blk_below (g := gb253) (o := .cells #[.int .u64 t250, .int .u64 t251] 61 (0, 0)) (by refine pe ?_; refine blk_put (cs := #[.int .u64 t250, .int .u64 0]) ?_ 1 _ rfl; refine pe ?_; refine blk_put (cs := #[.int .u64 0, .int .u64 0]) ?_ 0 _ rfl; refine pe ?_; refine blk_far ?_ NB253_252.out _; refine pe ?_; refine blk_far ?_ NB253_252.out _; refine pe ?_; exact BK253.out) hb); replace HB := wb HB hb; (try clear hb); (try clear hb2); (try clear hk); (try clear hi)) | ((with_reducible refine gate_dst (N := 11) rfl ?_); refine box_event ?hg (N := 11) ?hd (cs := #[.int .u64 0, .int .u64 0]) (t := 61) ?hr ?_; (case hd => rfl); (case hg => rfl); (case hr => first | (go_simp; done) | (go_simp; rfl)); intro gb258 hg w40 hbox hb; have BK258 := Aside0.mk (hbox); have GW258 := gs HB hg; have GE258 := gs HB hg; have NB242_258 := nl BK242 hg; have NB258_242 := nr BK242 hg; have NB243_258 := nl BK243 hg; have NB258_243 := nr BK243 hg; have NB244_258 := nl BK244 hg; have NB258_244 := nr BK244 hg; have NB247_258 := nl BK247 hg; have NB258_247 := nr BK247 hg; have NB252_258 := nl BK252 hg; have NB258_252 := nr BK252 hg; have NB253_258 := nl BK253 hg; have NB258_253 := nr BK253 hg; replace BK242 := kb BK242 hb; replace BK243 := kb BK243 hb; replace BK244 := kb BK244 hb; replace BK247 := kb BK247 hb; replace BK252 := kb BK252 hb; replace BK253 := kb BK253 hb; replace HB := wb HB hb; clear hb hbox hg) | ((with_reducible refine gate_dst (N := 12) rfl ?_); refine box_event ?hg (N := 12) ?hd (cs := #[.int .u64 0, .int .u64 0]) (t := 61) ?hr ?_; (case hd => rfl); (case hg => rfl); (case hr => first | (go_simp; done) | (go_simp; rfl)); intro gb259 hg w41 hbox hb; have BK259 := Aside0.mk (hbox); have GW259 := gs HB hg; have GE259 := gs HB hg; have NB242_259 := nl BK242 hg; have NB259_242 := nr BK242 hg; have NB243_259 := nl BK243 hg; have NB259_243 := nr BK243 hg; have NB244_259 := nl BK244 hg; have NB259_244 := nr BK244 hg; have NB247_259 := nl BK247 hg; have NB259_247 := nr BK247 hg; have NB252_259 := nl BK252 hg; have NB259_252 := nr BK252 hg; have NB253_259 := nl BK253 hg; have NB259_253 := nr BK253 hg; have NB258_259 := nl BK258 hg; have NB259_258 := nr BK258 hg; replace BK242 := kb BK242 hb; replace BK243 := kb BK243 hb; replace BK244 := kb BK244 hb; replace BK247 := kb BK247 hb; replace BK252 := kb BK252 hb; replace BK253 := kb BK253 hb; replace BK258 := kb BK258 hb; replace HB := wb HB hb; clear hb hbox hg; obtain ⟨hnb42, hnc42⟩ := n2 NB258_242; obtain ⟨hnb43, hnc43⟩ := n2 NB258_243; obtain ⟨hnb44, hnc44⟩ := n2 NB258_244; obtain ⟨hnb45, hnc45⟩ := n2 NB258_247; obtain ⟨hnb46, hnc46⟩ := n2 NB258_252; obtain ⟨hnb47, hnc47⟩ := n2 NB258_253; obtain ⟨hnb48, hnc48⟩ := n2 NB258_259; have hcz49_0 : w41.cell? ⟨gb258, 0, none⟩ = some (.int .u64 0) := (blk_cell BK258.out 0).trans rfl; have hcz49_1 : w41.cell? ⟨gb258, 1, none⟩ = some (.int .u64 0) := (blk_cell BK258.out 1).trans rfl; have hfz49_0 := blk_frozen BK258.out 0; have hfz49_1 := blk_frozen BK258.out 1; obtain ⟨hnb50, hnc50⟩ := n2 NB259_242; obtain ⟨hnb51, hnc51⟩ := n2 NB259_243; obtain ⟨hnb52, hnc52⟩ := n2 NB259_244; obtain ⟨hnb53, hnc53⟩ := n2 NB259_247; obtain ⟨hnb54, hnc54⟩ := n2 NB259_252; obtain ⟨hnb55, hnc55⟩ := n2 NB259_253; have hcz56_0 : w41.cell? ⟨gb259, 0, none⟩ = some (.int .u64 0) := (blk_cell BK259.out 0).trans rfl; have hcz56_1 : w41.cell? ⟨gb259, 1, none⟩ = some (.int .u64 0) := (blk_cell BK259.out 1).trans rfl; have hfz56_0 := blk_frozen BK259.out 0; have hfz56_1 := blk_frozen BK259.out 1))
  (try simp only [Act.put, List.setIfInBounds_toArray, List.set_cons_zero, List.set_cons_succ])
  go_cut [46] (fun v46 wc => ∃ (kq : Nat) (x46_6 : Bool), v46 = .bool x46_6 ∧ Aside0 (awardingbodyref01_Reduce.j0 kq a0 x46_6 t248 t249 t254 t255 = some (r1, r2, r3)) ∧ Aside0 (kq ≤ k) ∧ Aside0 (wc.heap[gb242]? = some (.cells #[.int .u64 a1_0, .int .u64 a1_1] 61 (0, 0))) ∧ Aside0 (wc.heap[gb243]? = some (.cells #[.int .u64 a2_0, .int .u64 a2_1] 61 (0, 0))) ∧ Aside0 (wc.heap[gb244]? = some (.cells #[.int .i64 0, .int .i64 0] 35 (0, 0))) ∧ Aside0 (wc.heap[gb247]? = some (.cells #[.int .u64 t245, .int .u64 t246] 61 (0, 0))) ∧ Aside0 (wc.heap[gb252]? = some (.cells #[.int .u64 t248, .int .u64 t249] 61 (0, 0))) ∧ Aside0 (wc.heap[gb253]? = some (.cells #[.int .u64 t250, .int .u64 t251] 61 (0, 0))) ∧ Aside0 (wc.heap[gb258]? = some (.cells #[.int .u64 t254, .int .u64 t255] 61 (0, 0))) ∧ Aside0 (wc.heap[gb259]? = some (.cells #[.int .u64 t256, .int .u64 t257] 61 (0, 0))) ∧ Aside0 (Below w.heap.size w wc))
  case first =>
    have H := HC7.out
    clear HC7
    by_cases c57 : t248 > 0
    · rw [if_pos c57] at H
      have c57b0 : decide (0 < t248) = true := decide_eq_true c57
      clear c57
      (first | rw [c57b0] | (simp only [i64_w, i32_w]; rw [c57b0]) | skip)
      have H' := Aside0.mk H
      clear H
      obtain ⟨hnb58, hnc58⟩ := n2 NB252_242
      obtain ⟨hnb59, hnc59⟩ := n2 NB252_243
      obtain ⟨hnb60, hnc60⟩ := n2 NB252_244
      obtain ⟨hnb61, hnc61⟩ := n2 NB252_247
      obtain ⟨hnb62, hnc62⟩ := n2 NB252_253
      obtain ⟨hnb63, hnc63⟩ := n2 NB252_258
      obtain ⟨hnb64, hnc64⟩ := n2 NB252_259
      have hcz65_0 : w41.cell? ⟨gb252, 0, none⟩ = some (.int .u64 t248) := (blk_cell BK252.out 0).trans rfl
      have hcz65_1 : w41.cell? ⟨gb252, 1, none⟩ = some (.int .u64 t249) := (blk_cell BK252.out 1).trans rfl
      have hfz65_0 := blk_frozen BK252.out 0
      have hfz65_1 := blk_frozen BK252.out 1
      go_wp2
      go_meet
      case rel => exact ⟨_, (true), (by first | rfl | (simp; done) | (simp [*]; done)), H', ⟨by first | omega | exact Nat.le_refl _⟩, ⟨bq BK242⟩, ⟨bq BK243⟩, ⟨bq BK244⟩, ⟨bq BK247⟩, ⟨bq BK252⟩, ⟨bq BK253⟩, ⟨by refine pe ?_; refine blk_far ?_ NB258_259.out _; refine pe ?_; refine blk_far ?_ NB258_259.out _; refine pe ?_; refine blk_put (cs := #[.int .u64 t254, .int .u64 0]) ?_ 1 _ rfl; refine pe ?_; refine blk_put (cs := #[.int .u64 0, .int .u64 0]) ?_ 0 _ rfl; refine pe ?_; exact BK258.out⟩, ⟨by refine pe ?_; refine blk_put (cs := #[.int .u64 t256, .int .u64 0]) ?_ 1 _ rfl; refine pe ?_; refine blk_put (cs := #[.int .u64 0, .int .u64 0]) ?_ 0 _ rfl; refine pe ?_; refine blk_far ?_ NB259_258.out _; refine pe ?_; refine blk_far ?_ NB259_258.out _; refine pe ?_; exact BK259.out⟩, ⟨bw HB⟩⟩
    · rw [if_neg c57] at H
      have c57b0 : decide (0 < t248) = false := decide_eq_false c57
      clear c57
      (first | rw [c57b0] | (simp only [i64_w, i32_w]; rw [c57b0]) | skip)
      by_cases c66 : t254 > 0
      · rw [if_pos c66] at H
        have c66b0 : decide (0 < t254) = true := decide_eq_true c66
        clear c66
        have H' := Aside0.mk H
        clear H
        obtain ⟨hnb67, hnc67⟩ := n2 NB252_242
        obtain ⟨hnb68, hnc68⟩ := n2 NB252_243
        obtain ⟨hnb69, hnc69⟩ := n2 NB252_244
        obtain ⟨hnb70, hnc70⟩ := n2 NB252_247
        obtain ⟨hnb71, hnc71⟩ := n2 NB252_253
        obtain ⟨hnb72, hnc72⟩ := n2 NB252_258
        obtain ⟨hnb73, hnc73⟩ := n2 NB252_259
        have hcz74_0 : w41.cell? ⟨gb252, 0, none⟩ = some (.int .u64 t248) := (blk_cell BK252.out 0).trans rfl
        have hcz74_1 : w41.cell? ⟨gb252, 1, none⟩ = some (.int .u64 t249) := (blk_cell BK252.out 1).trans rfl
        have hfz74_0 := blk_frozen BK252.out 0
        have hfz74_1 := blk_frozen BK252.out 1
        obtain ⟨hnb75, hnc75⟩ := n2 NB258_242
        obtain ⟨hnb76, hnc76⟩ := n2 NB258_243
        obtain ⟨hnb77, hnc77⟩ := n2 NB258_244
        obtain ⟨hnb78, hnc78⟩ := n2 NB258_247
        obtain ⟨hnb79, hnc79⟩ := n2 NB258_253
        obtain ⟨hnb80, hnc80⟩ := n2 NB258_259
        have hcz81_0 : w41.cell? ⟨gb258, 0, none⟩ = some (.int .u64 0) := (blk_cell BK258.out 0).trans rfl
        have hcz81_1 : w41.cell? ⟨gb258, 1, none⟩ = some (.int .u64 0) := (blk_cell BK258.out 1).trans rfl
        have hfz81_0 := blk_frozen BK258.out 0
        have hfz81_1 := blk_frozen BK258.out 1
        go_wp2
        go_meet
        case rel => exact ⟨_, (true), (by first | rfl | (simp; done) | (simp [*]; done)), H', ⟨by first | omega | exact Nat.le_refl _⟩, ⟨bq BK242⟩, ⟨bq BK243⟩, ⟨bq BK244⟩, ⟨bq BK247⟩, ⟨bq BK252⟩, ⟨bq BK253⟩, ⟨by refine pe ?_; refine blk_far ?_ NB258_259.out _; refine pe ?_; refine blk_far ?_ NB258_259.out _; refine pe ?_; refine blk_put (cs := #[.int .u64 t254, .int .u64 0]) ?_ 1 _ rfl; refine pe ?_; refine blk_put (cs := #[.int .u64 0, .int .u64 0]) ?_ 0 _ rfl; refine pe ?_; exact BK258.out⟩, ⟨by refine pe ?_; refine blk_put (cs := #[.int .u64 t256, .int .u64 0]) ?_ 1 _ rfl; refine pe ?_; refine blk_put (cs := #[.int .u64 0, .int .u64 0]) ?_ 0 _ rfl; refine pe ?_; refine blk_far ?_ NB259_258.out _; refine pe ?_; refine blk_far ?_ NB259_258.out _; refine pe ?_; exact BK259.out⟩, ⟨bw HB⟩⟩
      · rw [if_neg c66] at H
        have c66b0 : decide (0 < t254) = false := decide_eq_false c66
        clear c66
        by_cases c82 : t249 > 1152921504606846976
        · rw [if_pos c82] at H
          have c82b0 : decide (1152921504606846976 < t249) = true := decide_eq_true c82
          clear c82
          have H' := Aside0.mk H
          clear H
          obtain ⟨hnb83, hnc83⟩ := n2 NB252_242
          obtain ⟨hnb84, hnc84⟩ := n2 NB252_243
          obtain ⟨hnb85, hnc85⟩ := n2 NB252_244
          obtain ⟨hnb86, hnc86⟩ := n2 NB252_247
          obtain ⟨hnb87, hnc87⟩ := n2 NB252_253
          obtain ⟨hnb88, hnc88⟩ := n2 NB252_258
          obtain ⟨hnb89, hnc89⟩ := n2 NB252_259
          have hcz90_0 : w41.cell? ⟨gb252, 0, none⟩ = some (.int .u64 t248) := (blk_cell BK252.out 0).trans rfl
          have hcz90_1 : w41.cell? ⟨gb252, 1, none⟩ = some (.int .u64 t249) := (blk_cell BK252.out 1).trans rfl
          have hfz90_0 := blk_frozen BK252.out 0
          have hfz90_1 := blk_frozen BK252.out 1
          obtain ⟨hnb91, hnc91⟩ := n2 NB258_242
          obtain ⟨hnb92, hnc92⟩ := n2 NB258_243
          obtain ⟨hnb93, hnc93⟩ := n2 NB258_244
          obtain ⟨hnb94, hnc94⟩ := n2 NB258_247
          obtain ⟨hnb95, hnc95⟩ := n2 NB258_253
          obtain ⟨hnb96, hnc96⟩ := n2 NB258_259
          have hcz97_0 : w41.cell? ⟨gb258, 0, none⟩ = some (.int .u64 0) := (blk_cell BK258.out 0).trans rfl
          have hcz97_1 : w41.cell? ⟨gb258, 1, none⟩ = some (.int .u64 0) := (blk_cell BK258.out 1).trans rfl
          have hfz97_0 := blk_frozen BK258.out 0
          have hfz97_1 := blk_frozen BK258.out 1
          go_wp2
          go_meet
          case rel => exact ⟨_, (true), (by first | rfl | (simp; done) | (simp [*]; done)), H', ⟨by first | omega | exact Nat.le_refl _⟩, ⟨bq BK242⟩, ⟨bq BK243⟩, ⟨bq BK244⟩, ⟨bq BK247⟩, ⟨bq BK252⟩, ⟨bq BK253⟩, ⟨by refine pe ?_; refine blk_far ?_ NB258_259.out _; refine pe ?_; refine blk_far ?_ NB258_259.out _; refine pe ?_; refine blk_put (cs := #[.int .u64 t254, .int .u64 0]) ?_ 1 _ rfl; refine pe ?_; refine blk_put (cs := #[.int .u64 0, .int .u64 0]) ?_ 0 _ rfl; refine pe ?_; exact BK258.out⟩, ⟨by refine pe ?_; refine blk_put (cs := #[.int .u64 t256, .int .u64 0]) ?_ 1 _ rfl; refine pe ?_; refine blk_put (cs := #[.int .u64 0, .int .u64 0]) ?_ 0 _ rfl; refine pe ?_; refine blk_far ?_ NB259_258.out _; refine pe ?_; refine blk_far ?_ NB259_258.out _; refine pe ?_; exact BK259.out⟩, ⟨bw HB⟩⟩
        · rw [if_neg c82] at H
          have c82b0 : decide (1152921504606846976 < t249) = false := decide_eq_false c82
          clear c82
          have H' := Aside0.mk H
          clear H
          obtain ⟨hnb98, hnc98⟩ := n2 NB252_242
          obtain ⟨hnb99, hnc99⟩ := n2 NB252_243
          obtain ⟨hnb100, hnc100⟩ := n2 NB252_244
          obtain ⟨hnb101, hnc101⟩ := n2 NB252_247
          obtain ⟨hnb102, hnc102⟩ := n2 NB252_253
          obtain ⟨hnb103, hnc103⟩ := n2 NB252_258
          obtain ⟨hnb104, hnc104⟩ := n2 NB252_259
          have hcz105_0 : w41.cell? ⟨gb252, 0, none⟩ = some (.int .u64 t248) := (blk_cell BK252.out 0).trans rfl
          have hcz105_1 : w41.cell? ⟨gb252, 1, none⟩ = some (.int .u64 t249) := (blk_cell BK252.out 1).trans rfl
          have hfz105_0 := blk_frozen BK252.out 0
          have hfz105_1 := blk_frozen BK252.out 1
          obtain ⟨hnb106, hnc106⟩ := n2 NB258_242
          obtain ⟨hnb107, hnc107⟩ := n2 NB258_243
          obtain ⟨hnb108, hnc108⟩ := n2 NB258_244
          obtain ⟨hnb109, hnc109⟩ := n2 NB258_247
          obtain ⟨hnb110, hnc110⟩ := n2 NB258_253
          obtain ⟨hnb111, hnc111⟩ := n2 NB258_259
          have hcz112_0 : w41.cell? ⟨gb258, 0, none⟩ = some (.int .u64 0) := (blk_cell BK258.out 0).trans rfl
          have hcz112_1 : w41.cell? ⟨gb258, 1, none⟩ = some (.int .u64 0) := (blk_cell BK258.out 1).trans rfl
          have hfz112_0 := blk_frozen BK258.out 0
          have hfz112_1 := blk_frozen BK258.out 1
          go_wp2
          go_meet
          case rel => exact ⟨_, (decide (t255 > 1152921504606846976)), (by first | rfl | (simp; done) | (simp [*]; done)), H', ⟨by first | omega | exact Nat.le_refl _⟩, ⟨bq BK242⟩, ⟨bq BK243⟩, ⟨bq BK244⟩, ⟨bq BK247⟩, ⟨bq BK252⟩, ⟨bq BK253⟩, ⟨by refine pe ?_; refine blk_far ?_ NB258_259.out _; refine pe ?_; refine blk_far ?_ NB258_259.out _; refine pe ?_; refine blk_put (cs := #[.int .u64 t254, .int .u64 0]) ?_ 1 _ rfl; refine pe ?_; refine blk_put (cs := #[.int .u64 0, .int .u64 0]) ?_ 0 _ rfl; refine pe ?_; exact BK258.out⟩, ⟨by refine pe ?_; refine blk_put (cs := #[.int .u64 t256, .int .u64 0]) ?_ 1 _ rfl; refine pe ?_; refine blk_put (cs := #[.int .u64 0, .int .u64 0]) ?_ 0 _ rfl; refine pe ?_; refine blk_far ?_ NB259_258.out _; refine pe ?_; refine blk_far ?_ NB259_258.out _; refine pe ?_; exact BK259.out⟩, ⟨bw HB⟩⟩
  case rest =>
    clear HC7
    try clear c1
    try clear c2
    try clear p2
    try clear c3
    try clear c4
    try clear c5
    try clear c6
    try clear c7
    try clear c8
    try clear c9
    try clear c10
    try clear c11
    try clear c12
    try clear c14
    try clear c18
    try clear c19
    try clear c20
    try clear c26
    try clear c27
    try clear c28
    try clear c29
    try clear c30
    try clear c32
    try clear c33
    try clear c34
    try clear c35
    try clear c42
    try clear c43
    try clear c44
    try clear c45
    try clear c46
    try clear c47
    try clear c48
    try clear c50
    try clear c51
    try clear c52
    try clear c53
    try clear c54
    try clear c55
    try clear c57
    try clear c57b0
    try clear c58
    try clear c59
    try clear c60
    try clear c61
    try clear c62
    try clear c63
    try clear c64
    try clear c66
    try clear c66b0
    try clear c67
    try clear c68
    try clear c69
    try clear c70
    try clear c71
    try clear c72
    try clear c73
    try clear c75
    try clear c76
    try clear c77
    try clear c78
    try clear c79
    try clear c80
    try clear c82
    try clear c82b0
    try clear c83
    try clear c84
    try clear c85
    try clear c86
    try clear c87
    try clear c88
    try clear c89
    try clear c91
    try clear c92
    try clear c93
    try clear c94
    try clear c95
    try clear c96
    try clear c98
    try clear c99
    try clear c100
    try clear c101
    try clear c102
    try clear c103
    try clear c104
    try clear c106
    try clear c107
    try clear c108
    try clear c109
    try clear c110
    try clear c111
    try clear hcz105_0
    try clear hcz105_1
    try clear hcz112_0
    try clear hcz112_1
    try clear hcz13_0
    try clear hcz13_1
    try clear hcz15_0
    try clear hcz15_1
    try clear hcz21_0
    try clear hcz21_1
    try clear hcz22_0
    try clear hcz22_1
    try clear hcz31_0
    try clear hcz31_1
    try clear hcz36_0
    try clear hcz36_1
    try clear hcz37_0
    try clear hcz37_1
    try clear hcz38_0
    try clear hcz38_1
    try clear hcz49_0
    try clear hcz49_1
    try clear hcz56_0
    try clear hcz56_1
    try clear hcz65_0
    try clear hcz65_1
    try clear hcz74_0
    try clear hcz74_1
    try clear hcz81_0
    try clear hcz81_1
    try clear hcz90_0
    try clear hcz90_1
    try clear hcz97_0
    try clear hcz97_1
    try clear hfz105_0
    try clear hfz105_1
    try clear hfz112_0
    try clear hfz112_1
    try clear hfz13_0
    try clear hfz13_1
    try clear hfz15_0
    try clear hfz15_1
    try clear hfz21_0
    try clear hfz21_1
    try clear hfz22_0
    try clear hfz22_1
    try clear hfz31_0
    try clear hfz31_1
    try clear hfz36_0
    try clear hfz36_1
    try clear hfz37_0
    try clear hfz37_1
    try clear hfz38_0
    try clear hfz38_1
    try clear hfz49_0
    try clear hfz49_1
    try clear hfz56_0
    try clear hfz56_1
    try clear hfz65_0
    try clear hfz65_1
    try clear hfz74_0
    try clear hfz74_1
    try clear hfz81_0
    try clear hfz81_1
    try clear hfz90_0
    try clear hfz90_1
    try clear hfz97_0
    try clear hfz97_1
    obtain ⟨kq, x46_6, rfl, HA, HJ6, BK242, BK243, BK244, BK247, BK252, BK253, BK258, BK259, HB⟩ := hcut
    cases kq with
    | zero => exact absurd HA.out (by simp [awardingbodyref01_Reduce.j0])
    | succ kj6 =>
      have H := HA.out
      clear HA
      simp only [awardingbodyref01_Reduce.j0] at H
      by_cases c113 : x46_6 = true
      · subst c113
        have H1 : (some (0, 0, 6)) = some (r1, r2, r3) := by rw [if_pos rfl] at H; exact H
        clear H
        have H := H1
        clear H1
        simp only [Option.some.injEq, Prod.mk.injEq] at H
        obtain ⟨rfl, rfl, rfl⟩ := H
        obtain ⟨hnb114, hnc114⟩ := n2 NB244_242
        obtain ⟨hnb115, hnc115⟩ := n2 NB244_243
        obtain ⟨hnb116, hnc116⟩ := n2 NB244_247
        obtain ⟨hnb117, hnc117⟩ := n2 NB244_252
        obtain ⟨hnb118, hnc118⟩ := n2 NB244_253
        obtain ⟨hnb119, hnc119⟩ := n2 NB244_258
        obtain ⟨hnb120, hnc120⟩ := n2 NB244_259
        have hcz121_0 : wc.cell? ⟨gb244, 0, none⟩ = some (.int .i64 0) := (blk_cell BK244.out 0).trans rfl
        have hcz121_1 : wc.cell? ⟨gb244, 1, none⟩ = some (.int .i64 0) := (blk_cell BK244.out 1).trans rfl
        have hfz121_0 := blk_frozen BK244.out 0
        have hfz121_1 := blk_frozen BK244.out 1
        go_wp2
        refine bodyPost_ret (results_ct rfl _ _ gb244 35 #[.int .i64 0, .int .i64 0] (0, 0) _ rfl (by refine pe ?_; refine blk_put (cs := #[.int .i64 0, .int .i64 0]) ?_ 1 _ rfl; refine pe ?_; refine blk_put (cs := #[.int .i64 0, .int .i64 0]) ?_ 0 _ rfl; refine pe ?_; exact BK244.out) Try.underlying35 rfl (by kernel_rfl)) rfl ?_
        exact ⟨by first | rfl | (simp [errW_none, errW_some] <;> rfl) | (simp [*, errW_none, errW_some] <;> rfl), bw HB⟩
      · replace c113 := Bool.eq_false_iff.mpr c113
        subst c113
        have H1 : (if a0 = true then (some (wrap64 (-(wrap64 (t249))), wrap64 (t255), 0)) else (some (wrap64 (t249), wrap64 (t255), 0))) = some (r1, r2, r3) := by rw [if_neg (show ¬ (false = true) by decide)] at H; exact H
        clear H
        have H := H1
        clear H1
        by_cases c122 : a0 = true
        · subst c122
          have H1 : (some (wrap64 (-(wrap64 (t249))), wrap64 (t255), 0)) = some (r1, r2, r3) := by rw [if_pos rfl] at H; exact H
          clear H
          have H := H1
          clear H1
          simp only [Option.some.injEq, Prod.mk.injEq] at H
          obtain ⟨rfl, rfl, rfl⟩ := H
          obtain ⟨hnb123, hnc123⟩ := n2 NB252_242
          obtain ⟨hnb124, hnc124⟩ := n2 NB252_243
          obtain ⟨hnb125, hnc125⟩ := n2 NB252_244
          obtain ⟨hnb126, hnc126⟩ := n2 NB252_247
          obtain ⟨hnb127, hnc127⟩ := n2 NB252_253
          obtain ⟨hnb128, hnc128⟩ := n2 NB252_258
          obtain ⟨hnb129, hnc129⟩ := n2 NB252_259
          have hcz130_0 : wc.cell? ⟨gb252, 0, none⟩ = some (.int .u64 t248) := (blk_cell BK252.out 0).trans rfl
          have hcz130_1 : wc.cell? ⟨gb252, 1, none⟩ = some (.int .u64 t249) := (blk_cell BK252.out 1).trans rfl
          have hfz130_0 := blk_frozen BK252.out 0
          have hfz130_1 := blk_frozen BK252.out 1
          obtain ⟨hnb131, hnc131⟩ := n2 NB258_242
          obtain ⟨hnb132, hnc132⟩ := n2 NB258_243
          obtain ⟨hnb133, hnc133⟩ := n2 NB258_244
          obtain ⟨hnb134, hnc134⟩ := n2 NB258_247
          obtain ⟨hnb135, hnc135⟩ := n2 NB258_253
          obtain ⟨hnb136, hnc136⟩ := n2 NB258_259
          have hcz137_0 : wc.cell? ⟨gb258, 0, none⟩ = some (.int .u64 t254) := (blk_cell BK258.out 0).trans rfl
          have hcz137_1 : wc.cell? ⟨gb258, 1, none⟩ = some (.int .u64 t255) := (blk_cell BK258.out 1).trans rfl
          have hfz137_0 := blk_frozen BK258.out 0
          have hfz137_1 := blk_frozen BK258.out 1
          go_wp2_with (first | ((with_reducible refine gate_dst (N := 13) rfl ?_); refine box_event ?hg (N := 13) ?hd (cs := #[.int .i64 0, .int .i64 0]) (t := 35) ?hr ?_; (case hd => rfl); (case hg => rfl); (case hr => first | (go_simp; done) | (go_simp; rfl)); intro gb260 hg w138 hbox hb; have BK260 := Aside0.mk (hbox); have GW260 := gs HB hg; have GE260 := gs HB hg; have NB242_260 := nl BK242 hg; have NB260_242 := nr BK242 hg; have NB243_260 := nl BK243 hg; have NB260_243 := nr BK243 hg; have NB244_260 := nl BK244 hg; have NB260_244 := nr BK244 hg; have NB247_260 := nl BK247 hg; have NB260_247 := nr BK247 hg; have NB252_260 := nl BK252 hg; have NB260_252 := nr BK252 hg; have NB253_260 := nl BK253 hg; have NB260_253 := nr BK253 hg; have NB258_260 := nl BK258 hg; have NB260_258 := nr BK258 hg; have NB259_260 := nl BK259 hg; have NB260_259 := nr BK259 hg; replace BK242 := kb BK242 hb; replace BK243 := kb BK243 hb; replace BK244 := kb BK244 hb; replace BK247 := kb BK247 hb; replace BK252 := kb BK252 hb; replace BK253 := kb BK253 hb; replace BK258 := kb BK258 hb; replace BK259 := kb BK259 hb; replace HB := wb HB hb; clear hb hbox hg; obtain ⟨hnb139, hnc139⟩ := n2 NB260_242; obtain ⟨hnb140, hnc140⟩ := n2 NB260_243; obtain ⟨hnb141, hnc141⟩ := n2 NB260_244; obtain ⟨hnb142, hnc142⟩ := n2 NB260_247; obtain ⟨hnb143, hnc143⟩ := n2 NB260_252; obtain ⟨hnb144, hnc144⟩ := n2 NB260_253; obtain ⟨hnb145, hnc145⟩ := n2 NB260_258; obtain ⟨hnb146, hnc146⟩ := n2 NB260_259; have hcz147_0 : w138.cell? ⟨gb260, 0, none⟩ = some (.int .i64 0) := (blk_cell BK260.out 0).trans rfl; have hcz147_1 : w138.cell? ⟨gb260, 1, none⟩ = some (.int .i64 0) := (blk_cell BK260.out 1).trans rfl; have hfz147_0 := blk_frozen BK260.out 0; have hfz147_1 := blk_frozen BK260.out 1; obtain ⟨hnb148, hnc148⟩ := n2 NB244_242; obtain ⟨hnb149, hnc149⟩ := n2 NB244_243; obtain ⟨hnb150, hnc150⟩ := n2 NB244_247; obtain ⟨hnb151, hnc151⟩ := n2 NB244_253; obtain ⟨hnb152, hnc152⟩ := n2 NB244_259; have hcz153_0 : w138.cell? ⟨gb244, 0, none⟩ = some (.int .i64 0) := (blk_cell BK244.out 0).trans rfl; have hcz153_1 : w138.cell? ⟨gb244, 1, none⟩ = some (.int .i64 0) := (blk_cell BK244.out 1).trans rfl; have hfz153_0 := blk_frozen BK244.out 0; have hfz153_1 := blk_frozen BK244.out 1))
          refine bodyPost_ret (results_ct rfl _ _ gb244 35 #[.int .i64 (wrap64 (-(wrap64 (t249)))), .int .i64 (wrap64 (t255))] (0, 0) _ rfl (by refine pe ?_; refine blk_put (cs := #[.int .i64 (wrap64 (-(wrap64 (t249)))), .int .i64 0]) ?_ 1 _ rfl; refine pe ?_; refine blk_put (cs := #[.int .i64 0, .int .i64 0]) ?_ 0 _ rfl; refine pe ?_; refine blk_far ?_ NB244_260.out _; refine pe ?_; refine blk_far ?_ NB244_260.out _; refine pe ?_; refine blk_far ?_ NB244_260.out _; refine pe ?_; exact BK244.out) Try.underlying35 rfl (by kernel_rfl)) rfl ?_
          exact ⟨by first | rfl | (simp [errW_none, errW_some] <;> rfl) | (simp [*, errW_none, errW_some] <;> rfl), bw HB⟩
        · replace c122 := Bool.eq_false_iff.mpr c122
          subst c122
          have H1 : (some (wrap64 (t249), wrap64 (t255), 0)) = some (r1, r2, r3) := by rw [if_neg (show ¬ (false = true) by decide)] at H; exact H
          clear H
          have H := H1
          clear H1
          simp only [Option.some.injEq, Prod.mk.injEq] at H
          obtain ⟨rfl, rfl, rfl⟩ := H
          obtain ⟨hnb154, hnc154⟩ := n2 NB252_242
          obtain ⟨hnb155, hnc155⟩ := n2 NB252_243
          obtain ⟨hnb156, hnc156⟩ := n2 NB252_244
          obtain ⟨hnb157, hnc157⟩ := n2 NB252_247
          obtain ⟨hnb158, hnc158⟩ := n2 NB252_253
          obtain ⟨hnb159, hnc159⟩ := n2 NB252_258
          obtain ⟨hnb160, hnc160⟩ := n2 NB252_259
          have hcz161_0 : wc.cell? ⟨gb252, 0, none⟩ = some (.int .u64 t248) := (blk_cell BK252.out 0).trans rfl
          have hcz161_1 : wc.cell? ⟨gb252, 1, none⟩ = some (.int .u64 t249) := (blk_cell BK252.out 1).trans rfl
          have hfz161_0 := blk_frozen BK252.out 0
          have hfz161_1 := blk_frozen BK252.out 1
          obtain ⟨hnb162, hnc162⟩ := n2 NB258_242
          obtain ⟨hnb163, hnc163⟩ := n2 NB258_243
          obtain ⟨hnb164, hnc164⟩ := n2 NB258_244
          obtain ⟨hnb165, hnc165⟩ := n2 NB258_247
          obtain ⟨hnb166, hnc166⟩ := n2 NB258_253
          obtain ⟨hnb167, hnc167⟩ := n2 NB258_259
          have hcz168_0 : wc.cell? ⟨gb258, 0, none⟩ = some (.int .u64 t254) := (blk_cell BK258.out 0).trans rfl
          have hcz168_1 : wc.cell? ⟨gb258, 1, none⟩ = some (.int .u64 t255) := (blk_cell BK258.out 1).trans rfl
          have hfz168_0 := blk_frozen BK258.out 0
          have hfz168_1 := blk_frozen BK258.out 1
          go_wp2_with (first | ((with_reducible refine gate_dst (N := 13) rfl ?_); refine box_event ?hg (N := 13) ?hd (cs := #[.int .i64 0, .int .i64 0]) (t := 35) ?hr ?_; (case hd => rfl); (case hg => rfl); (case hr => first | (go_simp; done) | (go_simp; rfl)); intro gb260 hg w169 hbox hb; have BK260 := Aside0.mk (hbox); have GW260 := gs HB hg; have GE260 := gs HB hg; have NB242_260 := nl BK242 hg; have NB260_242 := nr BK242 hg; have NB243_260 := nl BK243 hg; have NB260_243 := nr BK243 hg; have NB244_260 := nl BK244 hg; have NB260_244 := nr BK244 hg; have NB247_260 := nl BK247 hg; have NB260_247 := nr BK247 hg; have NB252_260 := nl BK252 hg; have NB260_252 := nr BK252 hg; have NB253_260 := nl BK253 hg; have NB260_253 := nr BK253 hg; have NB258_260 := nl BK258 hg; have NB260_258 := nr BK258 hg; have NB259_260 := nl BK259 hg; have NB260_259 := nr BK259 hg; replace BK242 := kb BK242 hb; replace BK243 := kb BK243 hb; replace BK244 := kb BK244 hb; replace BK247 := kb BK247 hb; replace BK252 := kb BK252 hb; replace BK253 := kb BK253 hb; replace BK258 := kb BK258 hb; replace BK259 := kb BK259 hb; replace HB := wb HB hb; clear hb hbox hg; obtain ⟨hnb170, hnc170⟩ := n2 NB260_242; obtain ⟨hnb171, hnc171⟩ := n2 NB260_243; obtain ⟨hnb172, hnc172⟩ := n2 NB260_244; obtain ⟨hnb173, hnc173⟩ := n2 NB260_247; obtain ⟨hnb174, hnc174⟩ := n2 NB260_252; obtain ⟨hnb175, hnc175⟩ := n2 NB260_253; obtain ⟨hnb176, hnc176⟩ := n2 NB260_258; obtain ⟨hnb177, hnc177⟩ := n2 NB260_259; have hcz178_0 : w169.cell? ⟨gb260, 0, none⟩ = some (.int .i64 0) := (blk_cell BK260.out 0).trans rfl; have hcz178_1 : w169.cell? ⟨gb260, 1, none⟩ = some (.int .i64 0) := (blk_cell BK260.out 1).trans rfl; have hfz178_0 := blk_frozen BK260.out 0; have hfz178_1 := blk_frozen BK260.out 1; obtain ⟨hnb179, hnc179⟩ := n2 NB244_242; obtain ⟨hnb180, hnc180⟩ := n2 NB244_243; obtain ⟨hnb181, hnc181⟩ := n2 NB244_247; obtain ⟨hnb182, hnc182⟩ := n2 NB244_253; obtain ⟨hnb183, hnc183⟩ := n2 NB244_259; have hcz184_0 : w169.cell? ⟨gb244, 0, none⟩ = some (.int .i64 0) := (blk_cell BK244.out 0).trans rfl; have hcz184_1 : w169.cell? ⟨gb244, 1, none⟩ = some (.int .i64 0) := (blk_cell BK244.out 1).trans rfl; have hfz184_0 := blk_frozen BK244.out 0; have hfz184_1 := blk_frozen BK244.out 1))
          refine bodyPost_ret (results_ct rfl _ _ gb244 35 #[.int .i64 (wrap64 (t249)), .int .i64 (wrap64 (t255))] (0, 0) _ rfl (by refine pe ?_; refine blk_put (cs := #[.int .i64 (wrap64 (t249)), .int .i64 0]) ?_ 1 _ rfl; refine pe ?_; refine blk_put (cs := #[.int .i64 0, .int .i64 0]) ?_ 0 _ rfl; refine pe ?_; refine blk_far ?_ NB244_260.out _; refine pe ?_; refine blk_far ?_ NB244_260.out _; refine pe ?_; exact BK244.out) Try.underlying35 rfl (by kernel_rfl)) rfl ?_
          exact ⟨by first | rfl | (simp [errW_none, errW_some] <;> rfl) | (simp [*, errW_none, errW_some] <;> rfl), bw HB⟩

end Go.Proofs.Ytcbohbeipgcfhaa.G
