-- Printed by gp.py (a program of this session's own, over the kit's printer) out of the translation; Lean checks it.
import Derived.Test.YtcbohbeipgcfhaaG0
import Derived.Test.YtcbohbeipgcfhaaGe0
import Derived.Test.YtcbohbeipgcfhaaGf18
import Derived.Test.YtcbohbeipgcfhaaGf22
import Derived.Test.YtcbohbeipgcfhaaGf23
namespace Go.Proofs.Ytcbohbeipgcfhaa.G
open Go.Proofs.Ytcbohbeipgcfhaa.Given Go.Proofs.Ytcbohbeipgcfhaa.Short
open Go.RowKit Go.Proofs.YtcbohbeipgcfhaaW.PrintWords Go.Proofs.YtcbohbeipgcfhaaW.PrintLast Go.Proofs.YtcbohbeipgcfhaaW.PrintMore
attribute [local go_sem] max2_int min2_int max_two min_two max_three min_three max_four min_four   -- for this text's walks alone
set_option linter.unusedVariables false
set_option linter.unusedSimpArgs false

attribute [local go_sem high] eqA35
/-! ### awardingbodylaw01_RatioMakes: function 5 -/
def awardingbodylaw01_RatioMakes.f (k : Nat) (a0 : Int) (a1 : Int) : Option (Bool) := (ratio_New.f k a0 a1).bind fun bt267 => ((awardingbodyref01_New.f k a0 a1).bind fun bt271 => (if (bt267.1 == bt271.1 && (bt267.2.1 == bt271.2.1)) = true then (if bt267.2.2 = bt271.2.2 then ((awardingbodylaw01_awake.f k).bind fun t275 => (some t275)) else (some false)) else (some false)))
theorem awardingbodylaw01_RatioMakes.mono : ∀ a0 a1 k, LeO (awardingbodylaw01_RatioMakes.f k a0 a1) (awardingbodylaw01_RatioMakes.f (k + 1) a0 a1) := by
  intro a0 a1 k
  unfold awardingbodylaw01_RatioMakes.f
  repeat' first
      | (with_reducible exact awardingbodylaw01_awake.mono _)
      | (with_reducible exact awardingbodyref01_New.mono _ _ _)
      | (with_reducible exact ratio_New.mono _ _ _)
      | (with_reducible exact LeO.refl _)
      | (with_reducible exact LeO.none _)
      | (with_reducible refine LeO.ite ?_ ?_)
      | (with_reducible refine LeO.bind ?_ (fun _ => ?_))
      | exact awardingbodylaw01_awake.mono _
      | exact awardingbodyref01_New.mono _ _ _
      | exact ratio_New.mono _ _ _
      | exact LeO.none _
      | refine LeO.ite ?_ ?_
      | refine LeO.bind ?_ (fun _ => ?_)
set_option maxHeartbeats 8000000 in
set_option maxRecDepth 100000 in
theorem awardingbodylaw01_RatioMakes.calls (k : Nat) (a0 : Int) (a1 : Int) (r : Bool) (w : World) (h : awardingbodylaw01_RatioMakes.f k a0 a1 = some r) :
    Calls Try.prog 5 #[.int .i64 a0, .int .i64 a1] w fun e w' => e = .returned (.bool r) ∧ Below w.heap.size w w' := by
  have hu35 := Try.underlying35
  have HB := Aside0.mk (Below.refl w.heap.size w)
  have H : ((ratio_New.f k a0 a1).bind fun bt267 => ((awardingbodyref01_New.f k a0 a1).bind fun bt271 => (if (bt267.1 == bt271.1 && (bt267.2.1 == bt271.2.1)) = true then (if bt267.2.2 = bt271.2.2 then ((awardingbodylaw01_awake.f k).bind fun t275 => (some t275)) else (some false)) else (some false)))) = some r := h
  clear h
  replace H := Option.bind_eq_some_iff.mp H
  obtain ⟨⟨t267, t268, t269⟩, A30, H⟩ := H
  replace H : ((awardingbodyref01_New.f k a0 a1).bind fun bt271 => (if (t267 == bt271.1 && (t268 == bt271.2.1)) = true then (if t269 = bt271.2.2 then ((awardingbodylaw01_awake.f k).bind fun t275 => (some t275)) else (some false)) else (some false))) = some r := H
  have A3 := Aside0.mk A30
  clear A30
  replace H := Option.bind_eq_some_iff.mp H
  obtain ⟨⟨t271, t272, t273⟩, A40, H⟩ := H
  replace H : (if (t267 == t271 && (t268 == t272)) = true then (if t269 = t273 then ((awardingbodylaw01_awake.f k).bind fun t275 => (some t275)) else (some false)) else (some false)) = some r := H
  have A4 := Aside0.mk A40
  clear A40
  have HC5 := Aside0.mk H
  clear H
  go_enter Try.func5, Try.ntmps5
  go_upto_region 3 with (first | ((with_reducible refine gate_callee (f := 22) rfl ?_); refine goesL_ (some 12) rfl rfl Try.func22 (by kernel_rfl) rfl #[.int .i64 a0, .int .i64 a1] rfl (by (try simp only [List.map_toArray, List.map_cons, List.map_nil]); first | done | rfl | (simp only [List.length_drop, List.length_take]; rfl)) ?_; (with_reducible refine (ratio_New.calls k a0 a1 t267 t268 t269 _ A3.out).mono ?_); rintro e w6 ⟨rfl, hb⟩; refine ⟨_, rfl, ?_⟩; replace HB := wb HB hb; (try clear hb); (try clear hb2); (try clear hk); (try clear hi)) | ((with_reducible refine gate_dst (N := 5) rfl ?_); refine box_event ?hg (N := 5) ?hd (cs := #[.int .i64 0, .int .i64 0]) (t := 35) ?hr ?_; (case hd => rfl); (case hg => rfl); (case hr => first | (go_simp; done) | (go_simp; rfl)); intro gb270 hg w7 hbox hb; have BK270 := Aside0.mk (hbox); have GW270 := gs HB hg; have GE270 := gs HB hg; replace HB := wb HB hb; clear hb hbox hg; have hcz8_0 : w7.cell? ⟨gb270, 0, none⟩ = some (.int .i64 0) := (blk_cell BK270.out 0).trans rfl; have hcz8_1 : w7.cell? ⟨gb270, 1, none⟩ = some (.int .i64 0) := (blk_cell BK270.out 1).trans rfl; have hfz8_0 := blk_frozen BK270.out 0; have hfz8_1 := blk_frozen BK270.out 1) | ((with_reducible refine gate_callee (f := 23) rfl ?_); refine goesL_ (some 18) rfl rfl Try.func23 (by kernel_rfl) rfl #[.int .i64 a0, .int .i64 a1] rfl (by (try simp only [List.map_toArray, List.map_cons, List.map_nil]); first | done | rfl | (simp only [List.length_drop, List.length_take]; rfl)) ?_; (with_reducible refine (awardingbodyref01_New.calls k a0 a1 t271 t272 t273 _ A4.out).mono ?_); rintro e w9 ⟨rfl, hb⟩; refine ⟨_, rfl, ?_⟩; replace BK270 := Aside0.mk (blk_below (g := gb270) (o := .cells #[.int .i64 t267, .int .i64 t268] 35 (0, 0)) (by refine pe ?_; refine blk_put (cs := #[.int .i64 t267, .int .i64 0]) ?_ 1 _ rfl; refine pe ?_; refine blk_put (cs := #[.int .i64 0, .int .i64 0]) ?_ 0 _ rfl; refine pe ?_; exact BK270.out) hb); replace HB := wb HB hb; (try clear hb); (try clear hb2); (try clear hk); (try clear hi)) | ((with_reducible refine gate_dst (N := 7) rfl ?_); refine box_event ?hg (N := 7) ?hd (cs := #[.int .i64 0, .int .i64 0]) (t := 35) ?hr ?_; (case hd => rfl); (case hg => rfl); (case hr => first | (go_simp; done) | (go_simp; rfl)); intro gb274 hg w10 hbox hb; have BK274 := Aside0.mk (hbox); have GW274 := gs HB hg; have GE274 := gs HB hg; have NB270_274 := nl BK270 hg; have NB274_270 := nr BK270 hg; replace BK270 := kb BK270 hb; replace HB := wb HB hb; clear hb hbox hg; obtain ⟨hnb11, hnc11⟩ := n2 NB274_270; have hcz12_0 : w10.cell? ⟨gb274, 0, none⟩ = some (.int .i64 0) := (blk_cell BK274.out 0).trans rfl; have hcz12_1 : w10.cell? ⟨gb274, 1, none⟩ = some (.int .i64 0) := (blk_cell BK274.out 1).trans rfl; have hfz12_0 := blk_frozen BK274.out 0; have hfz12_1 := blk_frozen BK274.out 1))
  (try simp only [Act.put, List.setIfInBounds_toArray, List.set_cons_zero, List.set_cons_succ])
  have H := HC5.out
  clear HC5
  by_cases c13 : (t267 == t271 && (t268 == t272)) = true
  · rw [if_pos c13] at H
    have c13b0 : (t267 == t271 && (t268 == t272)) = true := c13
    (try (have c13b1 : decide (t267 = t271 && (t268 == t272)) = true := by simpa using c13))
    (try (have c13b2 : (t267 == t271 && (t268 == t272)) = true := by simpa using c13))
    clear c13
    (first | rw [c13b0] | (simp only [i64_w, i32_w]; rw [c13b0]) | skip)
    by_cases c14 : t269 = t273
    · rw [if_pos c14] at H
      have c14b0 : (t269 == t273) = true := beq_iff_eq.mpr c14
      have c14b1 : (t269 != t273) = false := bne_eq_false_iff_eq.mpr c14
      clear c14
      replace H := Option.bind_eq_some_iff.mp H
      obtain ⟨t275, A150, H⟩ := H
      replace H : (some t275) = some r := H
      have A15 := Aside0.mk A150
      clear A150
      obtain rfl := Option.some.inj H
      obtain ⟨hnb16, hnc16⟩ := n2 NB270_274
      have hcz17_0 : w10.cell? ⟨gb270, 0, none⟩ = some (.int .i64 t267) := (blk_cell BK270.out 0).trans rfl
      have hcz17_1 : w10.cell? ⟨gb270, 1, none⟩ = some (.int .i64 t268) := (blk_cell BK270.out 1).trans rfl
      have hfz17_0 := blk_frozen BK270.out 0
      have hfz17_1 := blk_frozen BK270.out 1
      have hcz18_0 : w10.cell? ⟨gb274, 0, none⟩ = some (.int .i64 0) := (blk_cell BK274.out 0).trans rfl
      have hcz18_1 : w10.cell? ⟨gb274, 1, none⟩ = some (.int .i64 0) := (blk_cell BK274.out 1).trans rfl
      have hfz18_0 := blk_frozen BK274.out 0
      have hfz18_1 := blk_frozen BK274.out 1
      go_wp2_with (first | (go_at_call 18; (with_reducible refine (awardingbodylaw01_awake.calls k  t275 _ A15.out).mono ?_); rintro e w19 ⟨rfl, hb⟩; replace BK270 := kb BK270 hb; replace BK274 := Aside0.mk (blk_below (g := gb274) (o := .cells #[.int .i64 t271, .int .i64 t272] 35 (0, 0)) (by refine pe ?_; refine blk_put (cs := #[.int .i64 t271, .int .i64 0]) ?_ 1 _ rfl; refine pe ?_; refine blk_put (cs := #[.int .i64 0, .int .i64 0]) ?_ 0 _ rfl; refine pe ?_; exact BK274.out) hb); replace HB := wb HB hb; (try clear hb); (try clear hb2); (try clear hk); (try clear hi)))
      go_ret
      exact ⟨by first | rfl | (simp [errW_none, errW_some] <;> rfl) | (simp [*, errW_none, errW_some] <;> rfl), bw HB⟩
    · rw [if_neg c14] at H
      have c14b0 : (t269 == t273) = false := beq_eq_false_iff_ne.mpr c14
      have c14b1 : (t269 != t273) = true := bne_iff_ne.mpr c14
      obtain rfl := Option.some.inj H
      obtain ⟨hnb20, hnc20⟩ := n2 NB270_274
      have hcz21_0 : w10.cell? ⟨gb270, 0, none⟩ = some (.int .i64 t267) := (blk_cell BK270.out 0).trans rfl
      have hcz21_1 : w10.cell? ⟨gb270, 1, none⟩ = some (.int .i64 t268) := (blk_cell BK270.out 1).trans rfl
      have hfz21_0 := blk_frozen BK270.out 0
      have hfz21_1 := blk_frozen BK270.out 1
      have hcz22_0 : w10.cell? ⟨gb274, 0, none⟩ = some (.int .i64 0) := (blk_cell BK274.out 0).trans rfl
      have hcz22_1 : w10.cell? ⟨gb274, 1, none⟩ = some (.int .i64 0) := (blk_cell BK274.out 1).trans rfl
      have hfz22_0 := blk_frozen BK274.out 0
      have hfz22_1 := blk_frozen BK274.out 1
      go_wp2
      go_ret
      exact ⟨by first | rfl | (simp [errW_none, errW_some] <;> rfl) | (simp [*, errW_none, errW_some] <;> rfl), bw HB⟩
  · rw [if_neg c13] at H
    have c13b0 : (t267 == t271 && (t268 == t272)) = false := by simpa using c13
    (try (have c13b1 : decide (t267 = t271 && (t268 == t272)) = false := by simpa using c13))
    (try (have c13b2 : (t267 == t271 && (t268 == t272)) = false := by simpa using c13))
    (try (have c13b3 : ¬ (t267 = t271 && (t268 == t272)) := by simpa using c13))
    clear c13
    (first | rw [c13b0] | (simp only [i64_w, i32_w]; rw [c13b0]) | skip)
    obtain rfl := Option.some.inj H
    obtain ⟨hnb23, hnc23⟩ := n2 NB270_274
    have hcz24_0 : w10.cell? ⟨gb270, 0, none⟩ = some (.int .i64 t267) := (blk_cell BK270.out 0).trans rfl
    have hcz24_1 : w10.cell? ⟨gb270, 1, none⟩ = some (.int .i64 t268) := (blk_cell BK270.out 1).trans rfl
    have hfz24_0 := blk_frozen BK270.out 0
    have hfz24_1 := blk_frozen BK270.out 1
    have hcz25_0 : w10.cell? ⟨gb274, 0, none⟩ = some (.int .i64 0) := (blk_cell BK274.out 0).trans rfl
    have hcz25_1 : w10.cell? ⟨gb274, 1, none⟩ = some (.int .i64 0) := (blk_cell BK274.out 1).trans rfl
    have hfz25_0 := blk_frozen BK274.out 0
    have hfz25_1 := blk_frozen BK274.out 1
    go_wp2
    go_ret
    exact ⟨by first | rfl | (simp [errW_none, errW_some] <;> rfl) | (simp [*, errW_none, errW_some] <;> rfl), bw HB⟩

/-- THE ONE PURE STATEMENT of awardingbodylaw01_RatioMakes: yours. -/
def awardingbodylaw01_RatioMakes.Pure : Prop := ∀ (a0 : Int) (a1 : Int), (Lit.int .i64 a0).wf = true → (Lit.int .i64 a1).wf = true → ∃ k, awardingbodylaw01_RatioMakes.f k a0 a1 = some true
theorem awardingbodylaw01_RatioMakes.walk (P : awardingbodylaw01_RatioMakes.Pure) (a0 : Int) (a1 : Int) (w : World) (w0 : (Lit.int .i64 a0).wf = true) (w1 : (Lit.int .i64 a1).wf = true) :
    Calls Try.prog 5 #[.int .i64 a0, .int .i64 a1] w fun e w' => e = .returned (.bool true) ∧ Below w.heap.size w w' := by
  obtain ⟨k, h⟩ := P a0 a1 w0 w1
  refine (awardingbodylaw01_RatioMakes.calls k a0 a1 true w h).mono ?_
  rintro e w' ⟨rfl, hd⟩
  exact ⟨rfl, hd⟩

end Go.Proofs.Ytcbohbeipgcfhaa.G
