/- Texts of this claim laid together: Gf13. -/
import Derived.Test.YtcbohbeipgcfhaaG0
import Derived.Test.YtcbohbeipgcfhaaGe0
import Derived.Test.YtcbohbeipgcfhaaZOrn2
import Derived.Test.YtcbohbeipgcfhaaZOrn4
import Derived.Test.YtcbohbeipgcfhaaZOrn6
import Derived.Test.YtcbohbeipgcfhaaZOrn10
-- Printed by gp.py (a program of this session's own, over the kit's printer) out of the translation; Lean checks it.
namespace Go.Proofs.Ytcbohbeipgcfhaa.G
open Go.Proofs.Ytcbohbeipgcfhaa.Given Go.Proofs.Ytcbohbeipgcfhaa.Short
open Go.RowKit Go.Proofs.YtcbohbeipgcfhaaW.PrintWords Go.Proofs.YtcbohbeipgcfhaaW.PrintLast Go.Proofs.YtcbohbeipgcfhaaW.PrintMore
attribute [local go_sem] max2_int min2_int max_two min_two max_three min_three max_four min_four   -- for this text's walks alone
set_option linter.unusedVariables false
set_option linter.unusedSimpArgs false

attribute [local go_sem high] eqA35
/-! ### awardingbodylaw01_RatioOrders: function 13 -/
mutual
def awardingbodylaw01_RatioOrders.j0 : Nat → Bool → Int → Int → Int → Int → Int → Int → Option (Bool)
 | 0, _, _, _, _, _, _, _ => none
 | k + 1, x36, x807000, x807001, x808000, x808001, x809000, x809001 => if x36 = true then (some false) else ((ratio_Compare.f k x807000 x807001 x808000 x808001).bind fun t812 => (if t812 ≤ 0 then ((ratio_Compare.f k x808000 x808001 x809000 x809001).bind fun t813 => (if t813 ≤ 0 then ((ratio_Compare.f k x807000 x807001 x809000 x809001).bind fun t814 => (awardingbodylaw01_RatioOrders.j1 k (decide (t814 > 0)) x807000 x807001 x808000 x808001 x809000 x809001)) else (awardingbodylaw01_RatioOrders.j1 k false x807000 x807001 x808000 x808001 x809000 x809001))) else (awardingbodylaw01_RatioOrders.j1 k false x807000 x807001 x808000 x808001 x809000 x809001)))
def awardingbodylaw01_RatioOrders.j1 : Nat → Bool → Int → Int → Int → Int → Int → Int → Option (Bool)
 | 0, _, _, _, _, _, _, _ => none
 | k + 1, x52, x807000, x807001, x808000, x808001, x809000, x809001 => if x52 = true then (some false) else ((ratio_Add.f k x807000 x807001 x809000 x809001).bind fun bt815 => ((ratio_Add.f k x808000 x808001 x809000 x809001).bind fun bt819 => (if bt815.2.2 = 0 then (if bt819.2.2 = 0 then ((ratio_Compare.f k bt815.1 bt815.2.1 bt819.1 bt819.2.1).bind fun t823 => ((ratio_Compare.f k x807000 x807001 x808000 x808001).bind fun t824 => (if t823 = t824 then ((awardingbodylaw01_awake.f k).bind fun t825 => (some t825)) else (some false)))) else ((awardingbodylaw01_awake.f k).bind fun t826 => (some t826))) else ((awardingbodylaw01_awake.f k).bind fun t827 => (some t827)))))
end
def awardingbodylaw01_RatioOrders.f (k : Nat) (l0 : List Int) : Option (Bool) := (awardingbodymake_New.f l0).bind fun bt794 => ((awardingbodymake_Tape_Ratio.f k bt794.1 bt794.2).bind fun bt797 => ((awardingbodymake_Tape_Ratio.f k bt794.1 bt797.2.2).bind fun bt800 => ((awardingbodymake_Tape_Small.f k bt794.1 bt800.2.2).bind fun bt803 => ((ratio_Compare.f k bt797.1 bt797.2.1 bt800.1 bt800.2.1).bind fun t809 => ((ratio_Compare.f k bt800.1 bt800.2.1 bt797.1 bt797.2.1).bind fun t810 => (if t809 = (wrap64 (-t810)) then ((ratio_Compare.f k bt797.1 bt797.2.1 bt800.1 bt800.2.1).bind fun t811 => (awardingbodylaw01_RatioOrders.j0 k ((t811 == 0) != (bt797.1 == bt800.1 && (bt797.2.1 == bt800.2.1))) bt797.1 bt797.2.1 bt800.1 bt800.2.1 bt803.1 bt803.2.1)) else (awardingbodylaw01_RatioOrders.j0 k true bt797.1 bt797.2.1 bt800.1 bt800.2.1 bt803.1 bt803.2.1)))))))
theorem awardingbodylaw01_RatioOrders.mono_l : ∀ k, (∀ y0 y1 y2 y3 y4 y5 y6, LeO (awardingbodylaw01_RatioOrders.j0 k y0 y1 y2 y3 y4 y5 y6) (awardingbodylaw01_RatioOrders.j0 (k + 1) y0 y1 y2 y3 y4 y5 y6)) ∧ (∀ y0 y1 y2 y3 y4 y5 y6, LeO (awardingbodylaw01_RatioOrders.j1 k y0 y1 y2 y3 y4 y5 y6) (awardingbodylaw01_RatioOrders.j1 (k + 1) y0 y1 y2 y3 y4 y5 y6))
 | 0 => ⟨fun _ _ _ _ _ _ _ r h => by simp [awardingbodylaw01_RatioOrders.j0] at h, fun _ _ _ _ _ _ _ r h => by simp [awardingbodylaw01_RatioOrders.j1] at h⟩
 | k + 1 => by
  obtain ⟨ih0, ih1⟩ := awardingbodylaw01_RatioOrders.mono_l k
  refine ⟨?_, ?_⟩
  ·intro y0 y1 y2 y3 y4 y5 y6
   unfold awardingbodylaw01_RatioOrders.j0
   repeat' first
   | (with_reducible exact ih0 _ _ _ _ _ _ _)
   | (with_reducible exact ih1 _ _ _ _ _ _ _)
   | (with_reducible exact awardingbodylaw01_awake.mono _)
   | (with_reducible exact awardingbodymake_Tape_Ratio.mono _ _ _)
   | (with_reducible exact awardingbodymake_Tape_Small.mono _ _ _)
   | (with_reducible exact ratio_Add.mono _ _ _ _ _)
   | (with_reducible exact ratio_Compare.mono _ _ _ _ _)
   | (with_reducible exact LeO.refl _)
   | (with_reducible exact LeO.none _)
   | (with_reducible refine LeO.ite ?_ ?_)
   | (with_reducible refine LeO.bind ?_ (fun _ => ?_))
   | exact ih0 _ _ _ _ _ _ _
   | exact ih1 _ _ _ _ _ _ _
   | exact awardingbodylaw01_awake.mono _
   | exact awardingbodymake_Tape_Ratio.mono _ _ _
   | exact awardingbodymake_Tape_Small.mono _ _ _
   | exact ratio_Add.mono _ _ _ _ _
   | exact ratio_Compare.mono _ _ _ _ _
   | exact LeO.none _
   | refine LeO.ite ?_ ?_
   | refine LeO.bind ?_ (fun _ => ?_)
  ·intro y0 y1 y2 y3 y4 y5 y6
   unfold awardingbodylaw01_RatioOrders.j1
   repeat' first
   | (with_reducible exact ih0 _ _ _ _ _ _ _)
   | (with_reducible exact ih1 _ _ _ _ _ _ _)
   | (with_reducible exact awardingbodylaw01_awake.mono _)
   | (with_reducible exact awardingbodymake_Tape_Ratio.mono _ _ _)
   | (with_reducible exact awardingbodymake_Tape_Small.mono _ _ _)
   | (with_reducible exact ratio_Add.mono _ _ _ _ _)
   | (with_reducible exact ratio_Compare.mono _ _ _ _ _)
   | (with_reducible exact LeO.refl _)
   | (with_reducible exact LeO.none _)
   | (with_reducible refine LeO.ite ?_ ?_)
   | (with_reducible refine LeO.bind ?_ (fun _ => ?_))
   | exact ih0 _ _ _ _ _ _ _
   | exact ih1 _ _ _ _ _ _ _
   | exact awardingbodylaw01_awake.mono _
   | exact awardingbodymake_Tape_Ratio.mono _ _ _
   | exact awardingbodymake_Tape_Small.mono _ _ _
   | exact ratio_Add.mono _ _ _ _ _
   | exact ratio_Compare.mono _ _ _ _ _
   | exact LeO.none _
   | refine LeO.ite ?_ ?_
   | refine LeO.bind ?_ (fun _ => ?_)
theorem awardingbodylaw01_RatioOrders.mono : ∀ a0 k, LeO (awardingbodylaw01_RatioOrders.f k a0) (awardingbodylaw01_RatioOrders.f (k + 1) a0) := by
 intro a0 k
 obtain ⟨ih0, ih1⟩ := awardingbodylaw01_RatioOrders.mono_l k
 unfold awardingbodylaw01_RatioOrders.f
 repeat' first
   | (with_reducible exact ih0 _ _ _ _ _ _ _)
   | (with_reducible exact ih1 _ _ _ _ _ _ _)
   | (with_reducible exact awardingbodylaw01_awake.mono _)
   | (with_reducible exact awardingbodymake_Tape_Ratio.mono _ _ _)
   | (with_reducible exact awardingbodymake_Tape_Small.mono _ _ _)
   | (with_reducible exact ratio_Add.mono _ _ _ _ _)
   | (with_reducible exact ratio_Compare.mono _ _ _ _ _)
   | (with_reducible exact LeO.refl _)
   | (with_reducible exact LeO.none _)
   | (with_reducible refine LeO.ite ?_ ?_)
   | (with_reducible refine LeO.bind ?_ (fun _ => ?_))
   | exact ih0 _ _ _ _ _ _ _
   | exact ih1 _ _ _ _ _ _ _
   | exact awardingbodylaw01_awake.mono _
   | exact awardingbodymake_Tape_Ratio.mono _ _ _
   | exact awardingbodymake_Tape_Small.mono _ _ _
   | exact ratio_Add.mono _ _ _ _ _
   | exact ratio_Compare.mono _ _ _ _ _
   | exact LeO.none _
   | refine LeO.ite ?_ ?_
   | refine LeO.bind ?_ (fun _ => ?_)
def awardingbodylaw01_RatioOrders.T3 : Bool × List (List Nat × List Nat) := (true, [([], []), ([], []), ([0, 1], [0, 1]), ([], []), ([], []), ([3, 4, 2], [3, 4]), ([5], [5]), ([2, 6], [2, 6]), ([7, 5], [7]), ([8], [8]), ([8], [8]), ([9, 10, 8, 8], [8, 9, 10]), ([11, 8], [8, 11]), ([8], [8]), ([8], [8]), ([13, 14, 8], [8, 13, 14]), ([12, 15, 8], [8, 12, 15]), ([8, 16], [8, 16])])
def awardingbodylaw01_RatioOrders.B3 : List Nat := [0, 0, 3, 0, 0, 31, 63, 127, 255, 511, 511, 2047, 4095, 511, 511, 25087, 65535, 131071]
theorem awardingbodylaw01_RatioOrders.tab3 : rtab .any (opsOf Try.f13 3) = awardingbodylaw01_RatioOrders.T3 := by kernel_rfl
theorem awardingbodylaw01_RatioOrders.bits3 : waitsOk awardingbodylaw01_RatioOrders.T3.2 awardingbodylaw01_RatioOrders.B3 = true := by kernel_rfl
def awardingbodylaw01_RatioOrders.T9 : Bool × List (List Nat × List Nat) := (true, [([], []), ([0], [0]), ([1], [1]), ([2], [2]), ([3, 2], [2, 3]), ([2, 4], [2, 4]), ([5, 2], [5]), ([6], [6]), ([6], [6]), ([7, 8, 6, 6], [6, 7, 8]), ([6], [6]), ([6], [6]), ([10, 11, 9, 6], [6, 10, 11]), ([9, 12, 6], [6, 9, 12]), ([6, 13], [6, 13]), ([14, 12], [14]), ([15, 15], [15]), ([15, 16], [15, 16]), ([17, 16, 0, 1, 2, 3, 4, 5, 6, 7, 8, 9, 10, 11, 12, 13, 14, 15, 16, 17], [17])])
def awardingbodylaw01_RatioOrders.B9 : List Nat := [0, 1, 3, 7, 15, 31, 63, 127, 127, 511, 127, 127, 4095, 8191, 16383, 32767, 65535, 131071, 262143]
theorem awardingbodylaw01_RatioOrders.tab9 : rtab .any (opsOf Try.f13 9) = awardingbodylaw01_RatioOrders.T9 := by kernel_rfl
theorem awardingbodylaw01_RatioOrders.bits9 : waitsOk awardingbodylaw01_RatioOrders.T9.2 awardingbodylaw01_RatioOrders.B9 = true := by kernel_rfl
set_option maxHeartbeats 8000000 in
set_option maxRecDepth 100000 in
theorem awardingbodylaw01_RatioOrders.calls (k : Nat) (A0 : Option Addr) (c0 : Nat) (l0 : List Int) (r : Bool) (w : World) (hr0 : Kd.C (Kd.int .i64) w A0 l0.length l0) (hc0 : l0.length ≤ c0) (h : awardingbodylaw01_RatioOrders.f k l0 = some r) :
  Calls Try.prog 13 #[.slice A0 l0.length c0] w fun e w' => e = .returned (.bool r) ∧ Below w.heap.size w w' := by
 have hu35 := Try.underlying35
 have HR0 := Aside0.mk hr0
 have HC0 := Aside0.mk hc0
 clear hr0 hc0
 have HB := Aside0.mk (Below.refl w.heap.size w)
 have H : ((awardingbodymake_New.f l0).bind fun bt794 => ((awardingbodymake_Tape_Ratio.f k bt794.1 bt794.2).bind fun bt797 => ((awardingbodymake_Tape_Ratio.f k bt794.1 bt797.2.2).bind fun bt800 => ((awardingbodymake_Tape_Small.f k bt794.1 bt800.2.2).bind fun bt803 => ((ratio_Compare.f k bt797.1 bt797.2.1 bt800.1 bt800.2.1).bind fun t809 => ((ratio_Compare.f k bt800.1 bt800.2.1 bt797.1 bt797.2.1).bind fun t810 => (if t809 = (wrap64 (-t810)) then ((ratio_Compare.f k bt797.1 bt797.2.1 bt800.1 bt800.2.1).bind fun t811 => (awardingbodylaw01_RatioOrders.j0 k ((t811 == 0) != (bt797.1 == bt800.1 && (bt797.2.1 == bt800.2.1))) bt797.1 bt797.2.1 bt800.1 bt800.2.1 bt803.1 bt803.2.1)) else (awardingbodylaw01_RatioOrders.j0 k true bt797.1 bt797.2.1 bt800.1 bt800.2.1 bt803.1 bt803.2.1)))))))) = some r := h
 clear h
 replace H := Option.bind_eq_some_iff.mp H
 obtain ⟨⟨t794, t795⟩, A20, H⟩ := H
 replace H : ((awardingbodymake_Tape_Ratio.f k t794 t795).bind fun bt797 => ((awardingbodymake_Tape_Ratio.f k t794 bt797.2.2).bind fun bt800 => ((awardingbodymake_Tape_Small.f k t794 bt800.2.2).bind fun bt803 => ((ratio_Compare.f k bt797.1 bt797.2.1 bt800.1 bt800.2.1).bind fun t809 => ((ratio_Compare.f k bt800.1 bt800.2.1 bt797.1 bt797.2.1).bind fun t810 => (if t809 = (wrap64 (-t810)) then ((ratio_Compare.f k bt797.1 bt797.2.1 bt800.1 bt800.2.1).bind fun t811 => (awardingbodylaw01_RatioOrders.j0 k ((t811 == 0) != (bt797.1 == bt800.1 && (bt797.2.1 == bt800.2.1))) bt797.1 bt797.2.1 bt800.1 bt800.2.1 bt803.1 bt803.2.1)) else (awardingbodylaw01_RatioOrders.j0 k true bt797.1 bt797.2.1 bt800.1 bt800.2.1 bt803.1 bt803.2.1))))))) = some r := H
 have A2 := Aside0.mk A20
 clear A20
 replace H := Option.bind_eq_some_iff.mp H
 obtain ⟨⟨t797, t798, t799⟩, A30, H⟩ := H
 replace H : ((awardingbodymake_Tape_Ratio.f k t794 t799).bind fun bt800 => ((awardingbodymake_Tape_Small.f k t794 bt800.2.2).bind fun bt803 => ((ratio_Compare.f k t797 t798 bt800.1 bt800.2.1).bind fun t809 => ((ratio_Compare.f k bt800.1 bt800.2.1 t797 t798).bind fun t810 => (if t809 = (wrap64 (-t810)) then ((ratio_Compare.f k t797 t798 bt800.1 bt800.2.1).bind fun t811 => (awardingbodylaw01_RatioOrders.j0 k ((t811 == 0) != (t797 == bt800.1 && (t798 == bt800.2.1))) t797 t798 bt800.1 bt800.2.1 bt803.1 bt803.2.1)) else (awardingbodylaw01_RatioOrders.j0 k true t797 t798 bt800.1 bt800.2.1 bt803.1 bt803.2.1)))))) = some r := H
 have A3 := Aside0.mk A30
 clear A30
 replace H := Option.bind_eq_some_iff.mp H
 obtain ⟨⟨t800, t801, t802⟩, A40, H⟩ := H
 replace H : ((awardingbodymake_Tape_Small.f k t794 t802).bind fun bt803 => ((ratio_Compare.f k t797 t798 t800 t801).bind fun t809 => ((ratio_Compare.f k t800 t801 t797 t798).bind fun t810 => (if t809 = (wrap64 (-t810)) then ((ratio_Compare.f k t797 t798 t800 t801).bind fun t811 => (awardingbodylaw01_RatioOrders.j0 k ((t811 == 0) != (t797 == t800 && (t798 == t801))) t797 t798 t800 t801 bt803.1 bt803.2.1)) else (awardingbodylaw01_RatioOrders.j0 k true t797 t798 t800 t801 bt803.1 bt803.2.1))))) = some r := H
 have A4 := Aside0.mk A40
 clear A40
 replace H := Option.bind_eq_some_iff.mp H
 obtain ⟨⟨t803, t804, t805⟩, A50, H⟩ := H
 replace H : ((ratio_Compare.f k t797 t798 t800 t801).bind fun t809 => ((ratio_Compare.f k t800 t801 t797 t798).bind fun t810 => (if t809 = (wrap64 (-t810)) then ((ratio_Compare.f k t797 t798 t800 t801).bind fun t811 => (awardingbodylaw01_RatioOrders.j0 k ((t811 == 0) != (t797 == t800 && (t798 == t801))) t797 t798 t800 t801 t803 t804)) else (awardingbodylaw01_RatioOrders.j0 k true t797 t798 t800 t801 t803 t804)))) = some r := H
 have A5 := Aside0.mk A50
 clear A50
 have HC6 := Aside0.mk H
 clear H
 go_enter Try.func13, Try.ntmps13
 go_upto_region 3 with (first | ((with_reducible refine gate_callee (f := 19) rfl ?_); refine goesL_ (some 12) rfl rfl Try.func19 (by kernel_rfl) rfl #[.slice A0 l0.length c0] rfl (by (try simp only [List.map_toArray, List.map_cons, List.map_nil]); first | done | rfl | (simp only [List.length_drop, List.length_take]; rfl)) ?_; (with_reducible refine (awardingbodymake_New.calls _ _ l0 t794 t795 w _ ?side1 ?side2 ?side3 A2.out).mono ?_); (case side1 => repeat (first | (with_reducible first | exact HB.out | apply below_alloc | apply pw_below_drewN | apply below_drew1) | exact HB.out)); (case side2 => exact HR0.out); (case side3 => exact HC0.out); rintro e w7 ⟨g796, rfl, hi, hb, hb2⟩; refine ⟨_, rfl, ?_⟩; have HI796 := Aside0.mk (hi); replace HB := Aside0.mk (hb); (try clear hb); (try clear hb2); (try clear hk); (try clear hi)) | ((with_reducible refine gate_callee (f := 43) rfl ?_); refine goesL_ (some 14) rfl rfl Try.func43 (by kernel_rfl) rfl #[.pointer (some ⟨g796, 0, none⟩)] rfl (by (try simp only [List.map_toArray, List.map_cons, List.map_nil]); first | done | rfl | (simp only [List.length_drop, List.length_take]; rfl)) ?_; (with_reducible refine (awardingbodymake_Tape_Ratio.calls k g796 t794 t795 t797 t798 t799 w _ ?side1 ?side2 A3.out).mono ?_); (case side1 => repeat (first | (with_reducible first | exact HI796.out | apply IsS53.alloc | apply IsS53.drewN | apply IsS53.drew | apply IsS53.set_1) | exact HI796.out)); (case side2 => repeat (first | (with_reducible first | exact HB.out | apply below_alloc | apply pw_below_drewN | apply below_drew1 | refine below_set ?_ (IsS53.ge HI796.out)) | exact HB.out)); rintro e w8 ⟨rfl, hi, hb, hk⟩; refine ⟨_, rfl, ?_⟩; replace HB := Aside0.mk (hb); replace HI796 := Aside0.mk (hi); (try clear hb); (try clear hb2); (try clear hk); (try clear hi)) | ((with_reducible refine gate_callee (f := 43) rfl ?_); refine goesL_ (some 16) rfl rfl Try.func43 (by kernel_rfl) rfl #[.pointer (some ⟨g796, 0, none⟩)] rfl (by (try simp only [List.map_toArray, List.map_cons, List.map_nil]); first | done | rfl | (simp only [List.length_drop, List.length_take]; rfl)) ?_; (with_reducible refine (awardingbodymake_Tape_Ratio.calls k g796 t794 t799 t800 t801 t802 w _ ?side1 ?side2 A4.out).mono ?_); (case side1 => repeat (first | (with_reducible first | exact HI796.out | apply IsS53.alloc | apply IsS53.drewN | apply IsS53.drew | apply IsS53.set_1) | exact HI796.out)); (case side2 => repeat (first | (with_reducible first | exact HB.out | apply below_alloc | apply pw_below_drewN | apply below_drew1 | refine below_set ?_ (IsS53.ge HI796.out)) | exact HB.out)); rintro e w9 ⟨rfl, hi, hb, hk⟩; refine ⟨_, rfl, ?_⟩; replace HB := Aside0.mk (hb); replace HI796 := Aside0.mk (hi); (try clear hb); (try clear hb2); (try clear hk); (try clear hi)) | ((with_reducible refine gate_callee (f := 44) rfl ?_); refine goesL_ (some 18) rfl rfl Try.func44 (by kernel_rfl) rfl #[.pointer (some ⟨g796, 0, none⟩)] rfl (by (try simp only [List.map_toArray, List.map_cons, List.map_nil]); first | done | rfl | (simp only [List.length_drop, List.length_take]; rfl)) ?_; (with_reducible refine (awardingbodymake_Tape_Small.calls k g796 t794 t802 t803 t804 t805 w _ ?side1 ?side2 A5.out).mono ?_); (case side1 => repeat (first | (with_reducible first | exact HI796.out | apply IsS53.alloc | apply IsS53.drewN | apply IsS53.drew | apply IsS53.set_1) | exact HI796.out)); (case side2 => repeat (first | (with_reducible first | exact HB.out | apply below_alloc | apply pw_below_drewN | apply below_drew1 | refine below_set ?_ (IsS53.ge HI796.out)) | exact HB.out)); rintro e w10 ⟨rfl, hi, hb, hk⟩; refine ⟨_, rfl, ?_⟩; replace HB := Aside0.mk (hb); replace HI796 := Aside0.mk (hi); (try clear hb); (try clear hb2); (try clear hk); (try clear hi)) | ((with_reducible refine gate_dst (N := 4) rfl ?_); refine box_event ?hg (N := 4) ?hd (cs := #[.int .i64 0, .int .i64 0]) (t := 35) ?hr ?_; (case hd => rfl); (case hg => rfl); (case hr => first | (go_simp; done) | (go_simp; rfl)); intro gb806 hg w11 hbox hb; have BK806 := Aside0.mk (hbox); have GW806 := Aside0.mk ((by rw [hg]; exact (below_size (by repeat (first | (with_reducible first | exact HB.out | apply below_alloc | apply pw_below_drewN | apply below_drew1 | refine below_set ?_ (IsS53.ge HI796.out)) | exact HB.out))) : w.heap.size ≤ gb806)); have GE806 := Aside0.mk ((by rw [hg]; exact (below_size (by repeat (first | (with_reducible first | exact HB.out | apply below_alloc | apply pw_below_drewN | apply below_drew1 | refine below_set ?_ (IsS53.ge HI796.out)) | exact HB.out))) : w.heap.size ≤ gb806)); have NB796_806 := Aside0.mk ((by rw [hg]; exact Nat.ne_of_lt (IsS53.lt (show IsS53 w _ g796 t794 t805 from by repeat (first | (with_reducible first | exact HI796.out | apply IsS53.alloc | apply IsS53.drewN | apply IsS53.drew | apply IsS53.set_1) | exact HI796.out))) : g796 ≠ gb806)); have NB806_796 := Aside0.mk ((by rw [hg]; exact Nat.ne_of_gt (IsS53.lt (show IsS53 w _ g796 t794 t805 from by repeat (first | (with_reducible first | exact HI796.out | apply IsS53.alloc | apply IsS53.drewN | apply IsS53.drew | apply IsS53.set_1) | exact HI796.out))) : gb806 ≠ g796)); replace HI796 := Aside0.mk (IsS53.below (by repeat (first | (with_reducible first | exact HI796.out | apply IsS53.alloc | apply IsS53.drewN | apply IsS53.drew | apply IsS53.set_1) | exact HI796.out)) hb); replace HB := Aside0.mk (below_step (by repeat (first | (with_reducible first | exact HB.out | apply below_alloc | apply pw_below_drewN | apply below_drew1 | refine below_set ?_ (IsS53.ge HI796.out)) | exact HB.out)) hb); clear hb hbox hg) | ((with_reducible refine gate_dst (N := 5) rfl ?_); refine box_event ?hg (N := 5) ?hd (cs := #[.int .i64 0, .int .i64 0]) (t := 35) ?hr ?_; (case hd => rfl); (case hg => rfl); (case hr => first | (go_simp; done) | (go_simp; rfl)); intro gb807 hg w12 hbox hb; have BK807 := Aside0.mk (hbox); have GW807 := Aside0.mk ((by rw [hg]; exact (below_size (by repeat (first | (with_reducible first | exact HB.out | apply below_alloc | apply pw_below_drewN | apply below_drew1 | refine below_set ?_ (IsS53.ge HI796.out) | refine below_set ?_ GE806.out) | exact HB.out))) : w.heap.size ≤ gb807)); have GE807 := Aside0.mk ((by rw [hg]; exact (below_size (by repeat (first | (with_reducible first | exact HB.out | apply below_alloc | apply pw_below_drewN | apply below_drew1 | refine below_set ?_ (IsS53.ge HI796.out) | refine below_set ?_ GE806.out) | exact HB.out))) : w.heap.size ≤ gb807)); have NB806_807 := nl BK806 hg; have NB807_806 := nr BK806 hg; have NB796_807 := Aside0.mk ((by rw [hg]; exact Nat.ne_of_lt (IsS53.lt (show IsS53 w _ g796 t794 t805 from by repeat (first | (with_reducible first | exact HI796.out | apply IsS53.alloc | apply IsS53.drewN | apply IsS53.drew | apply IsS53.set_1 | refine IsS53.far ?_ NB796_806.out _) | exact HI796.out))) : g796 ≠ gb807)); have NB807_796 := Aside0.mk ((by rw [hg]; exact Nat.ne_of_gt (IsS53.lt (show IsS53 w _ g796 t794 t805 from by repeat (first | (with_reducible first | exact HI796.out | apply IsS53.alloc | apply IsS53.drewN | apply IsS53.drew | apply IsS53.set_1 | refine IsS53.far ?_ NB796_806.out _) | exact HI796.out))) : gb807 ≠ g796)); replace HI796 := Aside0.mk (IsS53.below (by repeat (first | (with_reducible first | exact HI796.out | apply IsS53.alloc | apply IsS53.drewN | apply IsS53.drew | apply IsS53.set_1 | refine IsS53.far ?_ NB796_806.out _) | exact HI796.out)) hb); replace BK806 := kb BK806 hb; replace HB := Aside0.mk (below_step (by repeat (first | (with_reducible first | exact HB.out | apply below_alloc | apply pw_below_drewN | apply below_drew1 | refine below_set ?_ (IsS53.ge HI796.out) | refine below_set ?_ GE806.out) | exact HB.out)) hb); clear hb hbox hg) | ((with_reducible refine gate_dst (N := 6) rfl ?_); refine box_event ?hg (N := 6) ?hd (cs := #[.int .i64 0, .int .i64 0]) (t := 35) ?hr ?_; (case hd => rfl); (case hg => rfl); (case hr => first | (go_simp; done) | (go_simp; rfl)); intro gb808 hg w13 hbox hb; have BK808 := Aside0.mk (hbox); have GW808 := Aside0.mk ((by rw [hg]; exact (below_size (by repeat (first | (with_reducible first | exact HB.out | apply below_alloc | apply pw_below_drewN | apply below_drew1 | refine below_set ?_ (IsS53.ge HI796.out) | refine below_set ?_ GE806.out | refine below_set ?_ GE807.out) | exact HB.out))) : w.heap.size ≤ gb808)); have GE808 := Aside0.mk ((by rw [hg]; exact (below_size (by repeat (first | (with_reducible first | exact HB.out | apply below_alloc | apply pw_below_drewN | apply below_drew1 | refine below_set ?_ (IsS53.ge HI796.out) | refine below_set ?_ GE806.out | refine below_set ?_ GE807.out) | exact HB.out))) : w.heap.size ≤ gb808)); have NB806_808 := nl BK806 hg; have NB808_806 := nr BK806 hg; have NB807_808 := nl BK807 hg; have NB808_807 := nr BK807 hg; have NB796_808 := Aside0.mk ((by rw [hg]; exact Nat.ne_of_lt (IsS53.lt (show IsS53 w _ g796 t794 t805 from by repeat (first | (with_reducible first | exact HI796.out | apply IsS53.alloc | apply IsS53.drewN | apply IsS53.drew | apply IsS53.set_1 | refine IsS53.far ?_ NB796_806.out _ | refine IsS53.far ?_ NB796_807.out _) | exact HI796.out))) : g796 ≠ gb808)); have NB808_796 := Aside0.mk ((by rw [hg]; exact Nat.ne_of_gt (IsS53.lt (show IsS53 w _ g796 t794 t805 from by repeat (first | (with_reducible first | exact HI796.out | apply IsS53.alloc | apply IsS53.drewN | apply IsS53.drew | apply IsS53.set_1 | refine IsS53.far ?_ NB796_806.out _ | refine IsS53.far ?_ NB796_807.out _) | exact HI796.out))) : gb808 ≠ g796)); replace HI796 := Aside0.mk (IsS53.below (by repeat (first | (with_reducible first | exact HI796.out | apply IsS53.alloc | apply IsS53.drewN | apply IsS53.drew | apply IsS53.set_1 | refine IsS53.far ?_ NB796_806.out _ | refine IsS53.far ?_ NB796_807.out _) | exact HI796.out)) hb); replace BK806 := kb BK806 hb; replace BK807 := kb BK807 hb; replace HB := Aside0.mk (below_step (by repeat (first | (with_reducible first | exact HB.out | apply below_alloc | apply pw_below_drewN | apply below_drew1 | refine below_set ?_ (IsS53.ge HI796.out) | refine below_set ?_ GE806.out | refine below_set ?_ GE807.out) | exact HB.out)) hb); clear hb hbox hg; obtain ⟨hnb14, hnc14⟩ := n2 NB806_807; obtain ⟨hnb15, hnc15⟩ := n2 NB806_808; obtain ⟨hnb16, hnc16⟩ := n2 NB806_796; have hcz17_0 : w13.cell? ⟨gb806, 0, none⟩ = some (.int .i64 0) := (blk_cell BK806.out 0).trans rfl; have hcz17_1 : w13.cell? ⟨gb806, 1, none⟩ = some (.int .i64 0) := (blk_cell BK806.out 1).trans rfl; have hfz17_0 := blk_frozen BK806.out 0; have hfz17_1 := blk_frozen BK806.out 1; obtain ⟨hnb18, hnc18⟩ := n2 NB807_808; obtain ⟨hnb19, hnc19⟩ := n2 NB807_796; have hcz20_0 : w13.cell? ⟨gb807, 0, none⟩ = some (.int .i64 0) := (blk_cell BK807.out 0).trans rfl; have hcz20_1 : w13.cell? ⟨gb807, 1, none⟩ = some (.int .i64 0) := (blk_cell BK807.out 1).trans rfl; have hfz20_0 := blk_frozen BK807.out 0; have hfz20_1 := blk_frozen BK807.out 1; obtain ⟨hnb21, hnc21⟩ := n2 NB808_796; have hcz22_0 : w13.cell? ⟨gb808, 0, none⟩ = some (.int .i64 0) := (blk_cell BK808.out 0).trans rfl; have hcz22_1 : w13.cell? ⟨gb808, 1, none⟩ = some (.int .i64 0) := (blk_cell BK808.out 1).trans rfl; have hfz22_0 := blk_frozen BK808.out 0; have hfz22_1 := blk_frozen BK808.out 1))
 (try simp only [Act.put, List.setIfInBounds_toArray, List.set_cons_zero, List.set_cons_succ])
 go_cut [36] (fun v36 wc => ∃ (kq : Nat) (x36_5 : Bool), v36 = .bool x36_5 ∧ Aside0 (awardingbodylaw01_RatioOrders.j0 kq x36_5 t797 t798 t800 t801 t803 t804 = some r) ∧ Aside0 (kq ≤ k) ∧ Aside0 (wc.heap[gb806]? = some (.cells #[.int .i64 t797, .int .i64 t798] 35 (0, 0))) ∧ Aside0 (wc.heap[gb807]? = some (.cells #[.int .i64 t800, .int .i64 t801] 35 (0, 0))) ∧ Aside0 (wc.heap[gb808]? = some (.cells #[.int .i64 t803, .int .i64 t804] 35 (0, 0))) ∧ Aside0 (Below w.heap.size w wc))
 case first =>
  have H := HC6.out
  clear HC6
  replace H := Option.bind_eq_some_iff.mp H
  obtain ⟨t809, A230, H⟩ := H
  replace H : ((ratio_Compare.f k t800 t801 t797 t798).bind fun t810 => (if t809 = (wrap64 (-t810)) then ((ratio_Compare.f k t797 t798 t800 t801).bind fun t811 => (awardingbodylaw01_RatioOrders.j0 k ((t811 == 0) != (t797 == t800 && (t798 == t801))) t797 t798 t800 t801 t803 t804)) else (awardingbodylaw01_RatioOrders.j0 k true t797 t798 t800 t801 t803 t804))) = some r := H
  have A23 := Aside0.mk A230
  clear A230
  replace H := Option.bind_eq_some_iff.mp H
  obtain ⟨t810, A240, H⟩ := H
  replace H : (if t809 = (wrap64 (-t810)) then ((ratio_Compare.f k t797 t798 t800 t801).bind fun t811 => (awardingbodylaw01_RatioOrders.j0 k ((t811 == 0) != (t797 == t800 && (t798 == t801))) t797 t798 t800 t801 t803 t804)) else (awardingbodylaw01_RatioOrders.j0 k true t797 t798 t800 t801 t803 t804)) = some r := H
  have A24 := Aside0.mk A240
  clear A240
  by_cases c25 : t809 = (wrap64 (-t810))
  ·rw [if_pos c25] at H
   have c25b0 : (t809 == (wrap64 (-t810))) = true := beq_iff_eq.mpr c25
   have c25b1 : (t809 != (wrap64 (-t810))) = false := bne_eq_false_iff_eq.mpr c25
   clear c25
   (first | rw [c25b0] | (simp only [i64_w, i32_w]; rw [c25b0]) | skip)
   replace H := Option.bind_eq_some_iff.mp H
   obtain ⟨t811, A260, H⟩ := H
   replace H : (awardingbodylaw01_RatioOrders.j0 k ((t811 == 0) != (t797 == t800 && (t798 == t801))) t797 t798 t800 t801 t803 t804) = some r := H
   have A26 := Aside0.mk A260
   clear A260
   have H' := Aside0.mk H
   clear H
   try go_wp2
   have n0_ : Aside0 (((((((w13.setCell ⟨gb806, 0, none⟩ (.int .i64 t797)).setCell ⟨gb806, 1, none⟩ (.int .i64 t798)).setCell ⟨gb807, 0, none⟩ (.int .i64 t800)).setCell ⟨gb807, 1, none⟩ (.int .i64 t801)).setCell ⟨gb808, 0, none⟩ (.int .i64 t803)).setCell ⟨gb808, 1, none⟩ (.int .i64 t804)).heap[gb806]? = some (.cells #[.int .i64 t797, .int .i64 t798] 35 (0, 0))) := ⟨by refine pe ?_; refine blk_far ?_ NB806_808.out _; refine pe ?_; refine blk_far ?_ NB806_808.out _; refine pe ?_; refine blk_far ?_ NB806_807.out _; refine pe ?_; refine blk_far ?_ NB806_807.out _; refine pe ?_; refine blk_put (cs := #[.int .i64 t797, .int .i64 0]) ?_ 1 _ rfl; refine pe ?_; refine blk_put (cs := #[.int .i64 0, .int .i64 0]) ?_ 0 _ rfl; refine pe ?_; exact BK806.out⟩
   have n1_ : Aside0 (((((((w13.setCell ⟨gb806, 0, none⟩ (.int .i64 t797)).setCell ⟨gb806, 1, none⟩ (.int .i64 t798)).setCell ⟨gb807, 0, none⟩ (.int .i64 t800)).setCell ⟨gb807, 1, none⟩ (.int .i64 t801)).setCell ⟨gb808, 0, none⟩ (.int .i64 t803)).setCell ⟨gb808, 1, none⟩ (.int .i64 t804)).heap[gb807]? = some (.cells #[.int .i64 t800, .int .i64 t801] 35 (0, 0))) := ⟨by refine pe ?_; refine blk_far ?_ NB807_808.out _; refine pe ?_; refine blk_far ?_ NB807_808.out _; refine pe ?_; refine blk_put (cs := #[.int .i64 t800, .int .i64 0]) ?_ 1 _ rfl; refine pe ?_; refine blk_put (cs := #[.int .i64 0, .int .i64 0]) ?_ 0 _ rfl; refine pe ?_; refine blk_far ?_ NB807_806.out _; refine pe ?_; refine blk_far ?_ NB807_806.out _; refine pe ?_; exact BK807.out⟩
   have n2_ : Aside0 (((((((w13.setCell ⟨gb806, 0, none⟩ (.int .i64 t797)).setCell ⟨gb806, 1, none⟩ (.int .i64 t798)).setCell ⟨gb807, 0, none⟩ (.int .i64 t800)).setCell ⟨gb807, 1, none⟩ (.int .i64 t801)).setCell ⟨gb808, 0, none⟩ (.int .i64 t803)).setCell ⟨gb808, 1, none⟩ (.int .i64 t804)).heap[gb808]? = some (.cells #[.int .i64 t803, .int .i64 t804] 35 (0, 0))) := ⟨by refine pe ?_; refine blk_put (cs := #[.int .i64 t803, .int .i64 0]) ?_ 1 _ rfl; refine pe ?_; refine blk_put (cs := #[.int .i64 0, .int .i64 0]) ?_ 0 _ rfl; refine pe ?_; refine blk_far ?_ NB808_807.out _; refine pe ?_; refine blk_far ?_ NB808_807.out _; refine pe ?_; refine blk_far ?_ NB808_806.out _; refine pe ?_; refine blk_far ?_ NB808_806.out _; refine pe ?_; exact BK808.out⟩
   have n3_ : Aside0 (IsS53 w ((((((w13.setCell ⟨gb806, 0, none⟩ (.int .i64 t797)).setCell ⟨gb806, 1, none⟩ (.int .i64 t798)).setCell ⟨gb807, 0, none⟩ (.int .i64 t800)).setCell ⟨gb807, 1, none⟩ (.int .i64 t801)).setCell ⟨gb808, 0, none⟩ (.int .i64 t803)).setCell ⟨gb808, 1, none⟩ (.int .i64 t804)) g796 t794 t805) := ⟨by repeat (first | (with_reducible first | exact HI796.out | apply IsS53.alloc | apply IsS53.drewN | apply IsS53.drew | apply IsS53.set_1 | refine IsS53.far ?_ NB796_806.out _ | refine IsS53.far ?_ NB796_807.out _ | refine IsS53.far ?_ NB796_808.out _) | exact HI796.out)⟩
   have n4_ : Aside0 (Below w.heap.size w ((((((w13.setCell ⟨gb806, 0, none⟩ (.int .i64 t797)).setCell ⟨gb806, 1, none⟩ (.int .i64 t798)).setCell ⟨gb807, 0, none⟩ (.int .i64 t800)).setCell ⟨gb807, 1, none⟩ (.int .i64 t801)).setCell ⟨gb808, 0, none⟩ (.int .i64 t803)).setCell ⟨gb808, 1, none⟩ (.int .i64 t804))) := ⟨by repeat (first | (with_reducible first | exact HB.out | apply below_alloc | apply pw_below_drewN | apply below_drew1 | refine below_set ?_ (IsS53.ge HI796.out) | refine below_set ?_ GE806.out | refine below_set ?_ GE807.out | refine below_set ?_ GE808.out) | exact HB.out)⟩
   (try clear BK806)
   (try clear BK807)
   (try clear BK808)
   (try clear HI796)
   (try clear HB)
   generalize ((((((w13.setCell ⟨gb806, 0, none⟩ (.int .i64 t797)).setCell ⟨gb806, 1, none⟩ (.int .i64 t798)).setCell ⟨gb807, 0, none⟩ (.int .i64 t800)).setCell ⟨gb807, 1, none⟩ (.int .i64 t801)).setCell ⟨gb808, 0, none⟩ (.int .i64 t803)).setCell ⟨gb808, 1, none⟩ (.int .i64 t804)) = w27 at n0_ n1_ n2_ n3_ n4_ ⊢
   have BK806 := n0_
   have BK807 := n1_
   have BK808 := n2_
   have HI796 := n3_
   have HB := n4_
   clear n0_ n1_ n2_ n3_ n4_
   have n0_ := Aside0.mk (blk_drew BK806.out)
   have n1_ := Aside0.mk (blk_drew BK807.out)
   have n2_ := Aside0.mk (blk_drew BK808.out)
   have n3_ := Aside0.mk (IsS53.drew HI796.out)
   have n4_ := Aside0.mk (below_drew1 HB.out)
   clear BK806
   clear BK807
   clear BK808
   clear HI796
   clear HB
   have BK806 := n0_
   have BK807 := n1_
   have BK808 := n2_
   have HI796 := n3_
   have HB := n4_
   clear n0_ n1_ n2_ n3_ n4_
   refine start_ (n := 18) (S := fun w' => w'.cell? ⟨gb806, 0, none⟩ = some (.int .i64 t797) ∧ w'.cell? ⟨gb806, 1, none⟩ = some (.int .i64 t798) ∧ w'.cell? ⟨gb807, 0, none⟩ = some (.int .i64 t800) ∧ w'.cell? ⟨gb807, 1, none⟩ = some (.int .i64 t801)) (ds := []) #[false, false, false, false, false, false, false, false, false, false, false, false, false, false, false, false, false, false] (by kernel_rfl) rfl rfl ⟨(blk_cell BK806.out 0).trans rfl, (blk_cell BK806.out 1).trans rfl, (blk_cell BK807.out 0).trans rfl, (blk_cell BK807.out 1).trans rfl⟩ (fun hHeld => ?_); refine with_tabW awardingbodylaw01_RatioOrders.tab3 awardingbodylaw01_RatioOrders.bits3 (fun HT_ HW_ => ?_)
   generalize w27.drew = w28 at BK806 BK807 BK808 HI796 HB hHeld ⊢
   refine take_ (i := 0) (N := some 19) (v := ?_) (a' := ?_) #[true, false, false, false, false, false, false, false, false, false, false, false, false, false, false, false, false, false] rfl rfl (take_ofW HT_.out HW_.out (by kernel_rfl)) (fun _ _ _ h => h) (Or.inl ⟨by rfl, ?_⟩) hHeld ?_ ?_
   rotate_left
   ·rintro w' ⟨s0, s1, s2, s3⟩
    go_simp
    with_reducible rfl
   rotate_left
   ·simp only [Act.put, List.setIfInBounds_toArray, List.set_cons_zero, List.set_cons_succ, i64_w, i32_w]
    rfl
   refine take_ (i := 1) (N := some 20) (v := ?_) (a' := ?_) #[true, true, false, false, false, false, false, false, false, false, false, false, false, false, false, false, false, false] rfl rfl (take_ofW HT_.out HW_.out (by kernel_rfl)) (fun _ _ _ h => h) (Or.inl ⟨by rfl, ?_⟩) hHeld ?_ ?_
   rotate_left
   ·rintro w' ⟨s0, s1, s2, s3⟩
    go_simp
    with_reducible rfl
   rotate_left
   ·simp only [Act.put, List.setIfInBounds_toArray, List.set_cons_zero, List.set_cons_succ, i64_w, i32_w]
    rfl
   refine take_ (i := 3) (N := some 22) (v := ?_) (a' := ?_) #[true, true, false, true, false, false, false, false, false, false, false, false, false, false, false, false, false, false] rfl rfl (take_ofW HT_.out HW_.out (by kernel_rfl)) (fun _ _ _ h => h) (Or.inl ⟨by rfl, ?_⟩) hHeld ?_ ?_
   rotate_left
   ·rintro w' ⟨s0, s1, s2, s3⟩
    go_simp
    with_reducible rfl
   rotate_left
   ·simp only [Act.put, List.setIfInBounds_toArray, List.set_cons_zero, List.set_cons_succ, i64_w, i32_w]
    rfl
   refine take_ (i := 4) (N := some 23) (v := ?_) (a' := ?_) #[true, true, false, true, true, false, false, false, false, false, false, false, false, false, false, false, false, false] rfl rfl (take_ofW HT_.out HW_.out (by kernel_rfl)) (fun _ _ _ h => h) (Or.inl ⟨by rfl, ?_⟩) hHeld ?_ ?_
   rotate_left
   ·rintro w' ⟨s0, s1, s2, s3⟩
    go_simp
    with_reducible rfl
   rotate_left
   ·simp only [Act.put, List.setIfInBounds_toArray, List.set_cons_zero, List.set_cons_succ, i64_w, i32_w]
    rfl
   refine one_ (i := 2) (N := some 21) #[true, true, true, true, true, false, false, false, false, false, false, false, false, false, false, false, false, false] rfl rfl (one_of HT_.out (by kernel_rfl)) (by decide) (fun K hK => ?_)
   refine goes_ Try.func31 (by kernel_rfl) rfl #[.agg #[.int .i64 t797, .int .i64 t798], .agg #[.int .i64 t800, .int .i64 t801]] (by rfl) rfl rfl (by (try simp only [List.map_toArray, List.map_cons, List.map_nil]); first | done | rfl | (simp only [List.length_drop, List.length_take]; rfl)) ?_
   with_reducible refine (ratio_Compare.calls k t797 t798 t800 t801 t809 _ A23.out).mono ?_
   rintro e w29 ⟨rfl, hb⟩
   refine ⟨_, rfl, ?_⟩
   have n0_ := Aside0.mk (IsS53.below (by repeat (first | (with_reducible first | exact HI796.out | apply IsS53.alloc | apply IsS53.drewN | apply IsS53.drew | apply IsS53.set_1 | refine IsS53.far ?_ NB796_806.out _ | refine IsS53.far ?_ NB796_807.out _ | refine IsS53.far ?_ NB796_808.out _) | exact HI796.out)) hb)
   have n1_ := kb BK806 hb
   have n2_ := kb BK807 hb
   have n3_ := kb BK808 hb
   have n4_ := Aside0.mk (below_step (by repeat (first | (with_reducible first | exact HB.out | apply below_alloc | apply pw_below_drewN | apply below_drew1 | refine below_set ?_ (IsS53.ge HI796.out) | refine below_set ?_ GE806.out | refine below_set ?_ GE807.out | refine below_set ?_ GE808.out) | exact HB.out)) hb)
   clear HI796
   clear BK806
   clear BK807
   clear BK808
   clear HB
   have HI796 := n0_
   have BK806 := n1_
   have BK807 := n2_
   have BK808 := n3_
   have HB := n4_
   clear n0_ n1_ n2_ n3_ n4_
   (try clear hb)
   (try clear hb2)
   (try clear hk)
   (try clear hi)
   refine hK.out _ _ ⟨(blk_cell BK806.out 0).trans rfl, (blk_cell BK806.out 1).trans rfl, (blk_cell BK807.out 0).trans rfl, (blk_cell BK807.out 1).trans rfl⟩ (fun hHeld => ?_)
   clear hK K
   refine norm_ (a' := ?_) ?_ ?_
   rotate_left
   ·show Act.put _ (some 21) _ = _
    simp only [Act.put, List.setIfInBounds_toArray, List.set_cons_zero, List.set_cons_succ, i64_w, i32_w]
    rfl
   refine one_ (i := 5) (N := some 24) #[true, true, true, true, true, true, false, false, false, false, false, false, false, false, false, false, false, false] rfl rfl (one_of HT_.out (by kernel_rfl)) (by decide) (fun K hK => ?_)
   refine goes_ Try.func31 (by kernel_rfl) rfl #[.agg #[.int .i64 t800, .int .i64 t801], .agg #[.int .i64 t797, .int .i64 t798]] (by rfl) rfl rfl (by (try simp only [List.map_toArray, List.map_cons, List.map_nil]); first | done | rfl | (simp only [List.length_drop, List.length_take]; rfl)) ?_
   with_reducible refine (ratio_Compare.calls k t800 t801 t797 t798 t810 _ A24.out).mono ?_
   rintro e w30 ⟨rfl, hb⟩
   refine ⟨_, rfl, ?_⟩
   have n0_ := Aside0.mk (IsS53.below (by repeat (first | (with_reducible first | exact HI796.out | apply IsS53.alloc | apply IsS53.drewN | apply IsS53.drew | apply IsS53.set_1 | refine IsS53.far ?_ NB796_806.out _ | refine IsS53.far ?_ NB796_807.out _ | refine IsS53.far ?_ NB796_808.out _) | exact HI796.out)) hb)
   have n1_ := kb BK806 hb
   have n2_ := kb BK807 hb
   have n3_ := kb BK808 hb
   have n4_ := Aside0.mk (below_step (by repeat (first | (with_reducible first | exact HB.out | apply below_alloc | apply pw_below_drewN | apply below_drew1 | refine below_set ?_ (IsS53.ge HI796.out) | refine below_set ?_ GE806.out | refine below_set ?_ GE807.out | refine below_set ?_ GE808.out) | exact HB.out)) hb)
   clear HI796
   clear BK806
   clear BK807
   clear BK808
   clear HB
   have HI796 := n0_
   have BK806 := n1_
   have BK807 := n2_
   have BK808 := n3_
   have HB := n4_
   clear n0_ n1_ n2_ n3_ n4_
   (try clear hb)
   (try clear hb2)
   (try clear hk)
   (try clear hi)
   refine hK.out _ _ ⟨(blk_cell BK806.out 0).trans rfl, (blk_cell BK806.out 1).trans rfl, (blk_cell BK807.out 0).trans rfl, (blk_cell BK807.out 1).trans rfl⟩ (fun hHeld => ?_)
   clear hK K
   refine norm_ (a' := ?_) ?_ ?_
   rotate_left
   ·show Act.put _ (some 24) _ = _
    simp only [Act.put, List.setIfInBounds_toArray, List.set_cons_zero, List.set_cons_succ, i64_w, i32_w]
    rfl
   refine pure_ (i := 6) (N := some 25) (v := ?_) (a' := ?_) #[true, true, true, true, true, true, true, false, false, false, false, false, false, false, false, false, false, false] rfl rfl (any_of HT_.out (by kernel_rfl)) (fun _ _ _ h => h) (Or.inl ⟨by rfl, ?_⟩) ?_ ?_
   rotate_left
   ·intro w'
    go_simp
    with_reducible rfl
   rotate_left
   ·simp only [Act.put, List.setIfInBounds_toArray, List.set_cons_zero, List.set_cons_succ, i64_w, i32_w]
    rfl
   refine pure_ (i := 7) (N := some 26) (v := ?_) (a' := ?_) #[true, true, true, true, true, true, true, true, false, false, false, false, false, false, false, false, false, false] rfl rfl (any_of HT_.out (by kernel_rfl)) (fun _ _ _ h => h) (Or.inl ⟨by rfl, ?_⟩) ?_ ?_
   rotate_left
   ·intro w'
    go_simp
    with_reducible rfl
   rotate_left
   ·simp only [Act.put, List.setIfInBounds_toArray, List.set_cons_zero, List.set_cons_succ, i64_w, i32_w]
    rfl
   refine pure_ (i := 8) (N := some 27) (v := ?_) (a' := ?_) #[true, true, true, true, true, true, true, true, true, false, false, false, false, false, false, false, false, false] rfl rfl (any_of HT_.out (by kernel_rfl)) (fun _ _ _ h => h) (Or.inl ⟨by rfl, ?_⟩) ?_ ?_
   rotate_left
   ·intro w'
    go_simp
    with_reducible rfl
   rotate_left
   ·simp only [Act.put, List.setIfInBounds_toArray, List.set_cons_zero, List.set_cons_succ, i64_w, i32_w]
    rfl
   refine take_ (i := 9) (N := some 28) (v := ?_) (a' := ?_) #[true, true, true, true, true, true, true, true, true, true, false, false, false, false, false, false, false, false] rfl rfl (take_ofW HT_.out HW_.out (by kernel_rfl)) (fun _ _ _ h => h) (Or.inl ⟨by rfl, ?_⟩) hHeld ?_ ?_
   rotate_left
   ·rintro w' ⟨s0, s1, s2, s3⟩
    go_simp
    with_reducible rfl
   rotate_left
   ·simp only [Act.put, List.setIfInBounds_toArray, List.set_cons_zero, List.set_cons_succ, i64_w, i32_w]
    rfl
   refine take_ (i := 10) (N := some 29) (v := ?_) (a' := ?_) #[true, true, true, true, true, true, true, true, true, true, true, false, false, false, false, false, false, false] rfl rfl (take_ofW HT_.out HW_.out (by kernel_rfl)) (fun _ _ _ h => h) (Or.inl ⟨by rfl, ?_⟩) hHeld ?_ ?_
   rotate_left
   ·rintro w' ⟨s0, s1, s2, s3⟩
    go_simp
    with_reducible rfl
   rotate_left
   ·simp only [Act.put, List.setIfInBounds_toArray, List.set_cons_zero, List.set_cons_succ, i64_w, i32_w]
    rfl
   refine take_ (i := 13) (N := some 32) (v := ?_) (a' := ?_) #[true, true, true, true, true, true, true, true, true, true, true, false, false, true, false, false, false, false] rfl rfl (take_ofW HT_.out HW_.out (by kernel_rfl)) (fun _ _ _ h => h) (Or.inl ⟨by rfl, ?_⟩) hHeld ?_ ?_
   rotate_left
   ·rintro w' ⟨s0, s1, s2, s3⟩
    go_simp
    with_reducible rfl
   rotate_left
   ·simp only [Act.put, List.setIfInBounds_toArray, List.set_cons_zero, List.set_cons_succ, i64_w, i32_w]
    rfl
   refine take_ (i := 14) (N := some 33) (v := ?_) (a' := ?_) #[true, true, true, true, true, true, true, true, true, true, true, false, false, true, true, false, false, false] rfl rfl (take_ofW HT_.out HW_.out (by kernel_rfl)) (fun _ _ _ h => h) (Or.inl ⟨by rfl, ?_⟩) hHeld ?_ ?_
   rotate_left
   ·rintro w' ⟨s0, s1, s2, s3⟩
    go_simp
    with_reducible rfl
   rotate_left
   ·simp only [Act.put, List.setIfInBounds_toArray, List.set_cons_zero, List.set_cons_succ, i64_w, i32_w]
    rfl
   refine pure_ (i := 15) (N := some 34) (v := ?_) (a' := ?_) #[true, true, true, true, true, true, true, true, true, true, true, false, false, true, true, true, false, false] rfl rfl (any_of HT_.out (by kernel_rfl)) (fun _ _ _ h => h) (Or.inl ⟨by rfl, ?_⟩) ?_ ?_
   rotate_left
   ·intro w'
    go_simp
    with_reducible rfl
   rotate_left
   ·simp only [Act.put, List.setIfInBounds_toArray, List.set_cons_zero, List.set_cons_succ, i64_w, i32_w]
    rfl
   refine one_ (i := 11) (N := some 30) #[true, true, true, true, true, true, true, true, true, true, true, true, false, true, true, true, false, false] rfl rfl (one_of HT_.out (by kernel_rfl)) (by decide) (fun K hK => ?_)
   refine goes_ Try.func31 (by kernel_rfl) rfl #[.agg #[.int .i64 t797, .int .i64 t798], .agg #[.int .i64 t800, .int .i64 t801]] (by rfl) rfl rfl (by (try simp only [List.map_toArray, List.map_cons, List.map_nil]); first | done | rfl | (simp only [List.length_drop, List.length_take]; rfl)) ?_
   with_reducible refine (ratio_Compare.calls k t797 t798 t800 t801 t811 _ A26.out).mono ?_
   rintro e w31 ⟨rfl, hb⟩
   refine ⟨_, rfl, ?_⟩
   have n0_ := Aside0.mk (IsS53.below (by repeat (first | (with_reducible first | exact HI796.out | apply IsS53.alloc | apply IsS53.drewN | apply IsS53.drew | apply IsS53.set_1 | refine IsS53.far ?_ NB796_806.out _ | refine IsS53.far ?_ NB796_807.out _ | refine IsS53.far ?_ NB796_808.out _) | exact HI796.out)) hb)
   have n1_ := kb BK806 hb
   have n2_ := kb BK807 hb
   have n3_ := kb BK808 hb
   have n4_ := Aside0.mk (below_step (by repeat (first | (with_reducible first | exact HB.out | apply below_alloc | apply pw_below_drewN | apply below_drew1 | refine below_set ?_ (IsS53.ge HI796.out) | refine below_set ?_ GE806.out | refine below_set ?_ GE807.out | refine below_set ?_ GE808.out) | exact HB.out)) hb)
   clear HI796
   clear BK806
   clear BK807
   clear BK808
   clear HB
   have HI796 := n0_
   have BK806 := n1_
   have BK807 := n2_
   have BK808 := n3_
   have HB := n4_
   clear n0_ n1_ n2_ n3_ n4_
   (try clear hb)
   (try clear hb2)
   (try clear hk)
   (try clear hi)
   refine hK.out _ _ ⟨(blk_cell BK806.out 0).trans rfl, (blk_cell BK806.out 1).trans rfl, (blk_cell BK807.out 0).trans rfl, (blk_cell BK807.out 1).trans rfl⟩ (fun hHeld => ?_)
   clear hK K
   refine norm_ (a' := ?_) ?_ ?_
   rotate_left
   ·show Act.put _ (some 30) _ = _
    simp only [Act.put, List.setIfInBounds_toArray, List.set_cons_zero, List.set_cons_succ, i64_w, i32_w]
    rfl
   refine pure_ (i := 12) (N := some 31) (v := ?_) (a' := ?_) #[true, true, true, true, true, true, true, true, true, true, true, true, true, true, true, true, false, false] rfl rfl (any_of HT_.out (by kernel_rfl)) (fun _ _ _ h => h) (Or.inl ⟨by rfl, ?_⟩) ?_ ?_
   rotate_left
   ·intro w'
    go_simp
    with_reducible rfl
   rotate_left
   ·simp only [Act.put, List.setIfInBounds_toArray, List.set_cons_zero, List.set_cons_succ, i64_w, i32_w]
    rfl
   refine pure_ (i := 16) (N := some 35) (v := ?_) (a' := ?_) #[true, true, true, true, true, true, true, true, true, true, true, true, true, true, true, true, true, false] rfl rfl (any_of HT_.out (by kernel_rfl)) (fun _ _ _ h => h) (Or.inl ⟨by rfl, ?_⟩) ?_ ?_
   rotate_left
   ·intro w'
    go_simp
    with_reducible rfl
   rotate_left
   ·simp only [Act.put, List.setIfInBounds_toArray, List.set_cons_zero, List.set_cons_succ, i64_w, i32_w]
    rfl
   refine pure_ (i := 17) (N := some 36) (v := ?_) (a' := ?_) #[true, true, true, true, true, true, true, true, true, true, true, true, true, true, true, true, true, true] rfl rfl (any_of HT_.out (by kernel_rfl)) (fun _ _ _ h => h) (Or.inl ⟨by rfl, ?_⟩) ?_ ?_
   rotate_left
   ·intro w'
    go_simp
    with_reducible rfl
   rotate_left
   ·simp only [Act.put, List.setIfInBounds_toArray, List.set_cons_zero, List.set_cons_succ, i64_w, i32_w]
    rfl
   refine done_ (done_of HT_.out (by kernel_rfl)) ?_
   try go_wp2
   go_meet
   case rel => exact ⟨_, (((t811 == 0) != (t797 == t800 && (t798 == t801)))), (by first | rfl | (simp; done) | (simp [*]; done)), H', ⟨by first | omega | exact Nat.le_refl _⟩, ⟨bq BK806⟩, ⟨bq BK807⟩, ⟨bq BK808⟩, ⟨by repeat (first | (with_reducible first | exact HB.out | apply below_alloc | apply pw_below_drewN | apply below_drew1 | refine below_set ?_ (IsS53.ge HI796.out) | refine below_set ?_ GE806.out | refine below_set ?_ GE807.out | refine below_set ?_ GE808.out) | exact HB.out)⟩⟩
  ·rw [if_neg c25] at H
   have c25b0 : (t809 == (wrap64 (-t810))) = false := beq_eq_false_iff_ne.mpr c25
   have c25b1 : (t809 != (wrap64 (-t810))) = true := bne_iff_ne.mpr c25
   (first | rw [c25b0] | (simp only [i64_w, i32_w]; rw [c25b0]) | skip)
   have H' := Aside0.mk H
   clear H
   try go_wp2
   have n0_ : Aside0 (((((((w13.setCell ⟨gb806, 0, none⟩ (.int .i64 t797)).setCell ⟨gb806, 1, none⟩ (.int .i64 t798)).setCell ⟨gb807, 0, none⟩ (.int .i64 t800)).setCell ⟨gb807, 1, none⟩ (.int .i64 t801)).setCell ⟨gb808, 0, none⟩ (.int .i64 t803)).setCell ⟨gb808, 1, none⟩ (.int .i64 t804)).heap[gb806]? = some (.cells #[.int .i64 t797, .int .i64 t798] 35 (0, 0))) := ⟨by refine pe ?_; refine blk_far ?_ NB806_808.out _; refine pe ?_; refine blk_far ?_ NB806_808.out _; refine pe ?_; refine blk_far ?_ NB806_807.out _; refine pe ?_; refine blk_far ?_ NB806_807.out _; refine pe ?_; refine blk_put (cs := #[.int .i64 t797, .int .i64 0]) ?_ 1 _ rfl; refine pe ?_; refine blk_put (cs := #[.int .i64 0, .int .i64 0]) ?_ 0 _ rfl; refine pe ?_; exact BK806.out⟩
   have n1_ : Aside0 (((((((w13.setCell ⟨gb806, 0, none⟩ (.int .i64 t797)).setCell ⟨gb806, 1, none⟩ (.int .i64 t798)).setCell ⟨gb807, 0, none⟩ (.int .i64 t800)).setCell ⟨gb807, 1, none⟩ (.int .i64 t801)).setCell ⟨gb808, 0, none⟩ (.int .i64 t803)).setCell ⟨gb808, 1, none⟩ (.int .i64 t804)).heap[gb807]? = some (.cells #[.int .i64 t800, .int .i64 t801] 35 (0, 0))) := ⟨by refine pe ?_; refine blk_far ?_ NB807_808.out _; refine pe ?_; refine blk_far ?_ NB807_808.out _; refine pe ?_; refine blk_put (cs := #[.int .i64 t800, .int .i64 0]) ?_ 1 _ rfl; refine pe ?_; refine blk_put (cs := #[.int .i64 0, .int .i64 0]) ?_ 0 _ rfl; refine pe ?_; refine blk_far ?_ NB807_806.out _; refine pe ?_; refine blk_far ?_ NB807_806.out _; refine pe ?_; exact BK807.out⟩
   have n2_ : Aside0 (((((((w13.setCell ⟨gb806, 0, none⟩ (.int .i64 t797)).setCell ⟨gb806, 1, none⟩ (.int .i64 t798)).setCell ⟨gb807, 0, none⟩ (.int .i64 t800)).setCell ⟨gb807, 1, none⟩ (.int .i64 t801)).setCell ⟨gb808, 0, none⟩ (.int .i64 t803)).setCell ⟨gb808, 1, none⟩ (.int .i64 t804)).heap[gb808]? = some (.cells #[.int .i64 t803, .int .i64 t804] 35 (0, 0))) := ⟨by refine pe ?_; refine blk_put (cs := #[.int .i64 t803, .int .i64 0]) ?_ 1 _ rfl; refine pe ?_; refine blk_put (cs := #[.int .i64 0, .int .i64 0]) ?_ 0 _ rfl; refine pe ?_; refine blk_far ?_ NB808_807.out _; refine pe ?_; refine blk_far ?_ NB808_807.out _; refine pe ?_; refine blk_far ?_ NB808_806.out _; refine pe ?_; refine blk_far ?_ NB808_806.out _; refine pe ?_; exact BK808.out⟩
   have n3_ : Aside0 (IsS53 w ((((((w13.setCell ⟨gb806, 0, none⟩ (.int .i64 t797)).setCell ⟨gb806, 1, none⟩ (.int .i64 t798)).setCell ⟨gb807, 0, none⟩ (.int .i64 t800)).setCell ⟨gb807, 1, none⟩ (.int .i64 t801)).setCell ⟨gb808, 0, none⟩ (.int .i64 t803)).setCell ⟨gb808, 1, none⟩ (.int .i64 t804)) g796 t794 t805) := ⟨by repeat (first | (with_reducible first | exact HI796.out | apply IsS53.alloc | apply IsS53.drewN | apply IsS53.drew | apply IsS53.set_1 | refine IsS53.far ?_ NB796_806.out _ | refine IsS53.far ?_ NB796_807.out _ | refine IsS53.far ?_ NB796_808.out _) | exact HI796.out)⟩
   have n4_ : Aside0 (Below w.heap.size w ((((((w13.setCell ⟨gb806, 0, none⟩ (.int .i64 t797)).setCell ⟨gb806, 1, none⟩ (.int .i64 t798)).setCell ⟨gb807, 0, none⟩ (.int .i64 t800)).setCell ⟨gb807, 1, none⟩ (.int .i64 t801)).setCell ⟨gb808, 0, none⟩ (.int .i64 t803)).setCell ⟨gb808, 1, none⟩ (.int .i64 t804))) := ⟨by repeat (first | (with_reducible first | exact HB.out | apply below_alloc | apply pw_below_drewN | apply below_drew1 | refine below_set ?_ (IsS53.ge HI796.out) | refine below_set ?_ GE806.out | refine below_set ?_ GE807.out | refine below_set ?_ GE808.out) | exact HB.out)⟩
   (try clear BK806)
   (try clear BK807)
   (try clear BK808)
   (try clear HI796)
   (try clear HB)
   generalize ((((((w13.setCell ⟨gb806, 0, none⟩ (.int .i64 t797)).setCell ⟨gb806, 1, none⟩ (.int .i64 t798)).setCell ⟨gb807, 0, none⟩ (.int .i64 t800)).setCell ⟨gb807, 1, none⟩ (.int .i64 t801)).setCell ⟨gb808, 0, none⟩ (.int .i64 t803)).setCell ⟨gb808, 1, none⟩ (.int .i64 t804)) = w32 at n0_ n1_ n2_ n3_ n4_ ⊢
   have BK806 := n0_
   have BK807 := n1_
   have BK808 := n2_
   have HI796 := n3_
   have HB := n4_
   clear n0_ n1_ n2_ n3_ n4_
   have n0_ := Aside0.mk (blk_drew BK806.out)
   have n1_ := Aside0.mk (blk_drew BK807.out)
   have n2_ := Aside0.mk (blk_drew BK808.out)
   have n3_ := Aside0.mk (IsS53.drew HI796.out)
   have n4_ := Aside0.mk (below_drew1 HB.out)
   clear BK806
   clear BK807
   clear BK808
   clear HI796
   clear HB
   have BK806 := n0_
   have BK807 := n1_
   have BK808 := n2_
   have HI796 := n3_
   have HB := n4_
   clear n0_ n1_ n2_ n3_ n4_
   refine start_ (n := 18) (S := fun w' => w'.cell? ⟨gb806, 0, none⟩ = some (.int .i64 t797) ∧ w'.cell? ⟨gb806, 1, none⟩ = some (.int .i64 t798) ∧ w'.cell? ⟨gb807, 0, none⟩ = some (.int .i64 t800) ∧ w'.cell? ⟨gb807, 1, none⟩ = some (.int .i64 t801)) (ds := []) #[false, false, false, false, false, false, false, false, false, false, false, false, false, false, false, false, false, false] (by kernel_rfl) rfl rfl ⟨(blk_cell BK806.out 0).trans rfl, (blk_cell BK806.out 1).trans rfl, (blk_cell BK807.out 0).trans rfl, (blk_cell BK807.out 1).trans rfl⟩ (fun hHeld => ?_); refine with_tabW awardingbodylaw01_RatioOrders.tab3 awardingbodylaw01_RatioOrders.bits3 (fun HT_ HW_ => ?_)
   generalize w32.drew = w33 at BK806 BK807 BK808 HI796 HB hHeld ⊢
   refine take_ (i := 0) (N := some 19) (v := ?_) (a' := ?_) #[true, false, false, false, false, false, false, false, false, false, false, false, false, false, false, false, false, false] rfl rfl (take_ofW HT_.out HW_.out (by kernel_rfl)) (fun _ _ _ h => h) (Or.inl ⟨by rfl, ?_⟩) hHeld ?_ ?_
   rotate_left
   ·rintro w' ⟨s0, s1, s2, s3⟩
    go_simp
    with_reducible rfl
   rotate_left
   ·simp only [Act.put, List.setIfInBounds_toArray, List.set_cons_zero, List.set_cons_succ, i64_w, i32_w]
    rfl
   refine take_ (i := 1) (N := some 20) (v := ?_) (a' := ?_) #[true, true, false, false, false, false, false, false, false, false, false, false, false, false, false, false, false, false] rfl rfl (take_ofW HT_.out HW_.out (by kernel_rfl)) (fun _ _ _ h => h) (Or.inl ⟨by rfl, ?_⟩) hHeld ?_ ?_
   rotate_left
   ·rintro w' ⟨s0, s1, s2, s3⟩
    go_simp
    with_reducible rfl
   rotate_left
   ·simp only [Act.put, List.setIfInBounds_toArray, List.set_cons_zero, List.set_cons_succ, i64_w, i32_w]
    rfl
   refine take_ (i := 3) (N := some 22) (v := ?_) (a' := ?_) #[true, true, false, true, false, false, false, false, false, false, false, false, false, false, false, false, false, false] rfl rfl (take_ofW HT_.out HW_.out (by kernel_rfl)) (fun _ _ _ h => h) (Or.inl ⟨by rfl, ?_⟩) hHeld ?_ ?_
   rotate_left
   ·rintro w' ⟨s0, s1, s2, s3⟩
    go_simp
    with_reducible rfl
   rotate_left
   ·simp only [Act.put, List.setIfInBounds_toArray, List.set_cons_zero, List.set_cons_succ, i64_w, i32_w]
    rfl
   refine take_ (i := 4) (N := some 23) (v := ?_) (a' := ?_) #[true, true, false, true, true, false, false, false, false, false, false, false, false, false, false, false, false, false] rfl rfl (take_ofW HT_.out HW_.out (by kernel_rfl)) (fun _ _ _ h => h) (Or.inl ⟨by rfl, ?_⟩) hHeld ?_ ?_
   rotate_left
   ·rintro w' ⟨s0, s1, s2, s3⟩
    go_simp
    with_reducible rfl
   rotate_left
   ·simp only [Act.put, List.setIfInBounds_toArray, List.set_cons_zero, List.set_cons_succ, i64_w, i32_w]
    rfl
   refine one_ (i := 2) (N := some 21) #[true, true, true, true, true, false, false, false, false, false, false, false, false, false, false, false, false, false] rfl rfl (one_of HT_.out (by kernel_rfl)) (by decide) (fun K hK => ?_)
   refine goes_ Try.func31 (by kernel_rfl) rfl #[.agg #[.int .i64 t797, .int .i64 t798], .agg #[.int .i64 t800, .int .i64 t801]] (by rfl) rfl rfl (by (try simp only [List.map_toArray, List.map_cons, List.map_nil]); first | done | rfl | (simp only [List.length_drop, List.length_take]; rfl)) ?_
   with_reducible refine (ratio_Compare.calls k t797 t798 t800 t801 t809 _ A23.out).mono ?_
   rintro e w34 ⟨rfl, hb⟩
   refine ⟨_, rfl, ?_⟩
   have n0_ := Aside0.mk (IsS53.below (by repeat (first | (with_reducible first | exact HI796.out | apply IsS53.alloc | apply IsS53.drewN | apply IsS53.drew | apply IsS53.set_1 | refine IsS53.far ?_ NB796_806.out _ | refine IsS53.far ?_ NB796_807.out _ | refine IsS53.far ?_ NB796_808.out _) | exact HI796.out)) hb)
   have n1_ := kb BK806 hb
   have n2_ := kb BK807 hb
   have n3_ := kb BK808 hb
   have n4_ := Aside0.mk (below_step (by repeat (first | (with_reducible first | exact HB.out | apply below_alloc | apply pw_below_drewN | apply below_drew1 | refine below_set ?_ (IsS53.ge HI796.out) | refine below_set ?_ GE806.out | refine below_set ?_ GE807.out | refine below_set ?_ GE808.out) | exact HB.out)) hb)
   clear HI796
   clear BK806
   clear BK807
   clear BK808
   clear HB
   have HI796 := n0_
   have BK806 := n1_
   have BK807 := n2_
   have BK808 := n3_
   have HB := n4_
   clear n0_ n1_ n2_ n3_ n4_
   (try clear hb)
   (try clear hb2)
   (try clear hk)
   (try clear hi)
   refine hK.out _ _ ⟨(blk_cell BK806.out 0).trans rfl, (blk_cell BK806.out 1).trans rfl, (blk_cell BK807.out 0).trans rfl, (blk_cell BK807.out 1).trans rfl⟩ (fun hHeld => ?_)
   clear hK K
   refine norm_ (a' := ?_) ?_ ?_
   rotate_left
   ·show Act.put _ (some 21) _ = _
    simp only [Act.put, List.setIfInBounds_toArray, List.set_cons_zero, List.set_cons_succ, i64_w, i32_w]
    rfl
   refine one_ (i := 5) (N := some 24) #[true, true, true, true, true, true, false, false, false, false, false, false, false, false, false, false, false, false] rfl rfl (one_of HT_.out (by kernel_rfl)) (by decide) (fun K hK => ?_)
   refine goes_ Try.func31 (by kernel_rfl) rfl #[.agg #[.int .i64 t800, .int .i64 t801], .agg #[.int .i64 t797, .int .i64 t798]] (by rfl) rfl rfl (by (try simp only [List.map_toArray, List.map_cons, List.map_nil]); first | done | rfl | (simp only [List.length_drop, List.length_take]; rfl)) ?_
   with_reducible refine (ratio_Compare.calls k t800 t801 t797 t798 t810 _ A24.out).mono ?_
   rintro e w35 ⟨rfl, hb⟩
   refine ⟨_, rfl, ?_⟩
   have n0_ := Aside0.mk (IsS53.below (by repeat (first | (with_reducible first | exact HI796.out | apply IsS53.alloc | apply IsS53.drewN | apply IsS53.drew | apply IsS53.set_1 | refine IsS53.far ?_ NB796_806.out _ | refine IsS53.far ?_ NB796_807.out _ | refine IsS53.far ?_ NB796_808.out _) | exact HI796.out)) hb)
   have n1_ := kb BK806 hb
   have n2_ := kb BK807 hb
   have n3_ := kb BK808 hb
   have n4_ := Aside0.mk (below_step (by repeat (first | (with_reducible first | exact HB.out | apply below_alloc | apply pw_below_drewN | apply below_drew1 | refine below_set ?_ (IsS53.ge HI796.out) | refine below_set ?_ GE806.out | refine below_set ?_ GE807.out | refine below_set ?_ GE808.out) | exact HB.out)) hb)
   clear HI796
   clear BK806
   clear BK807
   clear BK808
   clear HB
   have HI796 := n0_
   have BK806 := n1_
   have BK807 := n2_
   have BK808 := n3_
   have HB := n4_
   clear n0_ n1_ n2_ n3_ n4_
   (try clear hb)
   (try clear hb2)
   (try clear hk)
   (try clear hi)
   refine hK.out _ _ ⟨(blk_cell BK806.out 0).trans rfl, (blk_cell BK806.out 1).trans rfl, (blk_cell BK807.out 0).trans rfl, (blk_cell BK807.out 1).trans rfl⟩ (fun hHeld => ?_)
   clear hK K
   refine norm_ (a' := ?_) ?_ ?_
   rotate_left
   ·show Act.put _ (some 24) _ = _
    simp only [Act.put, List.setIfInBounds_toArray, List.set_cons_zero, List.set_cons_succ, i64_w, i32_w]
    rfl
   refine pure_ (i := 6) (N := some 25) (v := ?_) (a' := ?_) #[true, true, true, true, true, true, true, false, false, false, false, false, false, false, false, false, false, false] rfl rfl (any_of HT_.out (by kernel_rfl)) (fun _ _ _ h => h) (Or.inl ⟨by rfl, ?_⟩) ?_ ?_
   rotate_left
   ·intro w'
    go_simp
    with_reducible rfl
   rotate_left
   ·simp only [Act.put, List.setIfInBounds_toArray, List.set_cons_zero, List.set_cons_succ, i64_w, i32_w]
    rfl
   refine pure_ (i := 7) (N := some 26) (v := ?_) (a' := ?_) #[true, true, true, true, true, true, true, true, false, false, false, false, false, false, false, false, false, false] rfl rfl (any_of HT_.out (by kernel_rfl)) (fun _ _ _ h => h) (Or.inl ⟨by rfl, ?_⟩) ?_ ?_
   rotate_left
   ·intro w'
    go_simp
    with_reducible rfl
   rotate_left
   ·simp only [Act.put, List.setIfInBounds_toArray, List.set_cons_zero, List.set_cons_succ, i64_w, i32_w]
    rfl
   refine pure_ (i := 8) (N := some 27) (v := ?_) (a' := ?_) #[true, true, true, true, true, true, true, true, true, false, false, false, false, false, false, false, false, false] rfl rfl (any_of HT_.out (by kernel_rfl)) (fun _ _ _ h => h) (Or.inl ⟨by rfl, ?_⟩) ?_ ?_
   rotate_left
   ·intro w'
    go_simp
    with_reducible rfl
   rotate_left
   ·simp only [Act.put, List.setIfInBounds_toArray, List.set_cons_zero, List.set_cons_succ, i64_w, i32_w]
    rfl
   refine pure_ (i := 9) (N := some 28) (v := undef) (a' := ?_) #[true, true, true, true, true, true, true, true, true, true, false, false, false, false, false, false, false, false] rfl rfl (any_of HT_.out (by kernel_rfl)) (fun _ _ _ h => h) (Or.inr ⟨by rfl, rfl⟩) ?_ ?_
   rotate_left
   ·simp only [Act.put, List.setIfInBounds_toArray, List.set_cons_zero, List.set_cons_succ, i64_w, i32_w]
    rfl
   refine pure_ (i := 10) (N := some 29) (v := undef) (a' := ?_) #[true, true, true, true, true, true, true, true, true, true, true, false, false, false, false, false, false, false] rfl rfl (any_of HT_.out (by kernel_rfl)) (fun _ _ _ h => h) (Or.inr ⟨by rfl, rfl⟩) ?_ ?_
   rotate_left
   ·simp only [Act.put, List.setIfInBounds_toArray, List.set_cons_zero, List.set_cons_succ, i64_w, i32_w]
    rfl
   refine pure_ (i := 11) (N := some 30) (v := undef) (a' := ?_) #[true, true, true, true, true, true, true, true, true, true, true, true, false, false, false, false, false, false] rfl rfl (any_of HT_.out (by kernel_rfl)) (fun _ _ _ h => h) (Or.inr ⟨by rfl, rfl⟩) ?_ ?_
   rotate_left
   ·simp only [Act.put, List.setIfInBounds_toArray, List.set_cons_zero, List.set_cons_succ, i64_w, i32_w]
    rfl
   refine pure_ (i := 12) (N := some 31) (v := undef) (a' := ?_) #[true, true, true, true, true, true, true, true, true, true, true, true, true, false, false, false, false, false] rfl rfl (any_of HT_.out (by kernel_rfl)) (fun _ _ _ h => h) (Or.inr ⟨by rfl, rfl⟩) ?_ ?_
   rotate_left
   ·simp only [Act.put, List.setIfInBounds_toArray, List.set_cons_zero, List.set_cons_succ, i64_w, i32_w]
    rfl
   refine pure_ (i := 13) (N := some 32) (v := undef) (a' := ?_) #[true, true, true, true, true, true, true, true, true, true, true, true, true, true, false, false, false, false] rfl rfl (any_of HT_.out (by kernel_rfl)) (fun _ _ _ h => h) (Or.inr ⟨by rfl, rfl⟩) ?_ ?_
   rotate_left
   ·simp only [Act.put, List.setIfInBounds_toArray, List.set_cons_zero, List.set_cons_succ, i64_w, i32_w]
    rfl
   refine pure_ (i := 14) (N := some 33) (v := undef) (a' := ?_) #[true, true, true, true, true, true, true, true, true, true, true, true, true, true, true, false, false, false] rfl rfl (any_of HT_.out (by kernel_rfl)) (fun _ _ _ h => h) (Or.inr ⟨by rfl, rfl⟩) ?_ ?_
   rotate_left
   ·simp only [Act.put, List.setIfInBounds_toArray, List.set_cons_zero, List.set_cons_succ, i64_w, i32_w]
    rfl
   refine pure_ (i := 15) (N := some 34) (v := undef) (a' := ?_) #[true, true, true, true, true, true, true, true, true, true, true, true, true, true, true, true, false, false] rfl rfl (any_of HT_.out (by kernel_rfl)) (fun _ _ _ h => h) (Or.inr ⟨by rfl, rfl⟩) ?_ ?_
   rotate_left
   ·simp only [Act.put, List.setIfInBounds_toArray, List.set_cons_zero, List.set_cons_succ, i64_w, i32_w]
    rfl
   refine pure_ (i := 16) (N := some 35) (v := undef) (a' := ?_) #[true, true, true, true, true, true, true, true, true, true, true, true, true, true, true, true, true, false] rfl rfl (any_of HT_.out (by kernel_rfl)) (fun _ _ _ h => h) (Or.inr ⟨by rfl, rfl⟩) ?_ ?_
   rotate_left
   ·simp only [Act.put, List.setIfInBounds_toArray, List.set_cons_zero, List.set_cons_succ, i64_w, i32_w]
    rfl
   refine pure_ (i := 17) (N := some 36) (v := ?_) (a' := ?_) #[true, true, true, true, true, true, true, true, true, true, true, true, true, true, true, true, true, true] rfl rfl (any_of HT_.out (by kernel_rfl)) (fun _ _ _ h => h) (Or.inl ⟨by rfl, ?_⟩) ?_ ?_
   rotate_left
   ·intro w'
    go_simp
    with_reducible rfl
   rotate_left
   ·simp only [Act.put, List.setIfInBounds_toArray, List.set_cons_zero, List.set_cons_succ, i64_w, i32_w]
    rfl
   refine done_ (done_of HT_.out (by kernel_rfl)) ?_
   try go_wp2
   go_meet
   case rel => exact ⟨_, (true), (by first | rfl | (simp; done) | (simp [*]; done)), H', ⟨by first | omega | exact Nat.le_refl _⟩, ⟨bq BK806⟩, ⟨bq BK807⟩, ⟨bq BK808⟩, ⟨by repeat (first | (with_reducible first | exact HB.out | apply below_alloc | apply pw_below_drewN | apply below_drew1 | refine below_set ?_ (IsS53.ge HI796.out) | refine below_set ?_ GE806.out | refine below_set ?_ GE807.out | refine below_set ?_ GE808.out) | exact HB.out)⟩⟩
 case rest =>
  clear HC6
  try clear c1
  try clear c2
  try clear p2
  try clear c3
  try clear c4
  try clear p6
  try clear c13
  try clear c14
  try clear c15
  try clear c16
  try clear c18
  try clear c19
  try clear c21
  try clear c25
  try clear c25b0
  try clear c25b1
  try clear c31
  try clear hcz17_0
  try clear hcz17_1
  try clear hcz20_0
  try clear hcz20_1
  try clear hcz22_0
  try clear hcz22_1
  try clear hfz17_0
  try clear hfz17_1
  try clear hfz20_0
  try clear hfz20_1
  try clear hfz22_0
  try clear hfz22_1
  obtain ⟨kq, x36_5, rfl, HA, HJ5, BK806, BK807, BK808, HB⟩ := hcut
  cases kq with
  | zero => exact absurd HA.out (by simp [awardingbodylaw01_RatioOrders.j0])
  | succ kj5 =>
   have H := HA.out
   clear HA
   simp only [awardingbodylaw01_RatioOrders.j0] at H
   by_cases c36 : x36_5 = true
   ·subst c36
    have H1 : (some false) = some r := by rw [if_pos rfl] at H; exact H
    clear H
    have H := H1
    clear H1
    obtain rfl := Option.some.inj H
    go_wp2
    go_ret
    exact ⟨by first | rfl | (simp [errW_none, errW_some] <;> rfl) | (simp [*, errW_none, errW_some] <;> rfl), bw HB⟩
   ·replace c36 := Bool.eq_false_iff.mpr c36
    subst c36
    have H1 : ((ratio_Compare.f kj5 t797 t798 t800 t801).bind fun t812 => (if t812 ≤ 0 then ((ratio_Compare.f kj5 t800 t801 t803 t804).bind fun t813 => (if t813 ≤ 0 then ((ratio_Compare.f kj5 t797 t798 t803 t804).bind fun t814 => (awardingbodylaw01_RatioOrders.j1 kj5 (decide (t814 > 0)) t797 t798 t800 t801 t803 t804)) else (awardingbodylaw01_RatioOrders.j1 kj5 false t797 t798 t800 t801 t803 t804))) else (awardingbodylaw01_RatioOrders.j1 kj5 false t797 t798 t800 t801 t803 t804))) = some r := by rw [if_neg (show ¬ (false = true) by decide)] at H; exact H
    clear H
    have H := H1
    clear H1
    have HC37 := Aside0.mk H
    clear H
    go_upto_region 5 with (fail)
    go_cut [52] (fun v52 wc => ∃ (kq : Nat) (x52_36 : Bool), v52 = .bool x52_36 ∧ Aside0 (awardingbodylaw01_RatioOrders.j1 kq x52_36 t797 t798 t800 t801 t803 t804 = some r) ∧ Aside0 (kq ≤ kj5) ∧ Aside0 (wc.heap[gb806]? = some (.cells #[.int .i64 t797, .int .i64 t798] 35 (0, 0))) ∧ Aside0 (wc.heap[gb807]? = some (.cells #[.int .i64 t800, .int .i64 t801] 35 (0, 0))) ∧ Aside0 (wc.heap[gb808]? = some (.cells #[.int .i64 t803, .int .i64 t804] 35 (0, 0))) ∧ Aside0 (Below w.heap.size w wc))
    case first =>
     have H := HC37.out
     clear HC37
     replace H := Option.bind_eq_some_iff.mp H
     obtain ⟨t812, A380, H⟩ := H
     replace H : (if t812 ≤ 0 then ((ratio_Compare.f kj5 t800 t801 t803 t804).bind fun t813 => (if t813 ≤ 0 then ((ratio_Compare.f kj5 t797 t798 t803 t804).bind fun t814 => (awardingbodylaw01_RatioOrders.j1 kj5 (decide (t814 > 0)) t797 t798 t800 t801 t803 t804)) else (awardingbodylaw01_RatioOrders.j1 kj5 false t797 t798 t800 t801 t803 t804))) else (awardingbodylaw01_RatioOrders.j1 kj5 false t797 t798 t800 t801 t803 t804)) = some r := H
     have A38 := Aside0.mk A380
     clear A380
     by_cases c39 : t812 ≤ 0
     ·rw [if_pos c39] at H
      have c39b0 : decide (t812 ≤ 0) = true := decide_eq_true c39
      clear c39
      (first | rw [c39b0] | (simp only [i64_w, i32_w]; rw [c39b0]) | skip)
      replace H := Option.bind_eq_some_iff.mp H
      obtain ⟨t813, A400, H⟩ := H
      replace H : (if t813 ≤ 0 then ((ratio_Compare.f kj5 t797 t798 t803 t804).bind fun t814 => (awardingbodylaw01_RatioOrders.j1 kj5 (decide (t814 > 0)) t797 t798 t800 t801 t803 t804)) else (awardingbodylaw01_RatioOrders.j1 kj5 false t797 t798 t800 t801 t803 t804)) = some r := H
      have A40 := Aside0.mk A400
      clear A400
      by_cases c41 : t813 ≤ 0
      ·rw [if_pos c41] at H
       have c41b0 : decide (t813 ≤ 0) = true := decide_eq_true c41
       clear c41
       replace H := Option.bind_eq_some_iff.mp H
       obtain ⟨t814, A420, H⟩ := H
       replace H : (awardingbodylaw01_RatioOrders.j1 kj5 (decide (t814 > 0)) t797 t798 t800 t801 t803 t804) = some r := H
       have A42 := Aside0.mk A420
       clear A420
       have H' := Aside0.mk H
       clear H
       obtain ⟨hnb43, hnc43⟩ := n2 NB806_807
       obtain ⟨hnb44, hnc44⟩ := n2 NB806_808
       have hcz45_0 : wc.cell? ⟨gb806, 0, none⟩ = some (.int .i64 t797) := (blk_cell BK806.out 0).trans rfl
       have hcz45_1 : wc.cell? ⟨gb806, 1, none⟩ = some (.int .i64 t798) := (blk_cell BK806.out 1).trans rfl
       have hfz45_0 := blk_frozen BK806.out 0
       have hfz45_1 := blk_frozen BK806.out 1
       obtain ⟨hnb46, hnc46⟩ := n2 NB807_808
       have hcz47_0 : wc.cell? ⟨gb807, 0, none⟩ = some (.int .i64 t800) := (blk_cell BK807.out 0).trans rfl
       have hcz47_1 : wc.cell? ⟨gb807, 1, none⟩ = some (.int .i64 t801) := (blk_cell BK807.out 1).trans rfl
       have hfz47_0 := blk_frozen BK807.out 0
       have hfz47_1 := blk_frozen BK807.out 1
       go_wp2_with (first | ((with_reducible refine gate_callee (f := 31) rfl ?_); refine goesL_ (some 39) rfl rfl Try.func31 (by kernel_rfl) rfl #[.agg #[.int .i64 t797, .int .i64 t798], .agg #[.int .i64 t800, .int .i64 t801]] rfl (by (try simp only [List.map_toArray, List.map_cons, List.map_nil]); first | done | rfl | (simp only [List.length_drop, List.length_take]; rfl)) ?_; (with_reducible refine (ratio_Compare.calls kj5 t797 t798 t800 t801 t812 _ A38.out).mono ?_); rintro e w48 ⟨rfl, hb⟩; refine ⟨_, rfl, ?_⟩; replace BK806 := kb BK806 hb; replace BK807 := kb BK807 hb; replace BK808 := kb BK808 hb; replace HB := wb HB hb; (try clear hb); (try clear hb2); (try clear hk); (try clear hi); have hcz49_0 : w48.cell? ⟨gb807, 0, none⟩ = some (.int .i64 t800) := (blk_cell BK807.out 0).trans rfl; have hcz49_1 : w48.cell? ⟨gb807, 1, none⟩ = some (.int .i64 t801) := (blk_cell BK807.out 1).trans rfl; have hfz49_0 := blk_frozen BK807.out 0; have hfz49_1 := blk_frozen BK807.out 1; have hcz50_0 : w48.cell? ⟨gb808, 0, none⟩ = some (.int .i64 t803) := (blk_cell BK808.out 0).trans rfl; have hcz50_1 : w48.cell? ⟨gb808, 1, none⟩ = some (.int .i64 t804) := (blk_cell BK808.out 1).trans rfl; have hfz50_0 := blk_frozen BK808.out 0; have hfz50_1 := blk_frozen BK808.out 1) | (go_at_call 31; (with_reducible refine (ratio_Compare.calls kj5 t800 t801 t803 t804 t813 _ A40.out).mono ?_); rintro e w51 ⟨rfl, hb⟩; replace BK806 := kb BK806 hb; replace BK807 := kb BK807 hb; replace BK808 := kb BK808 hb; replace HB := wb HB hb; (try clear hb); (try clear hb2); (try clear hk); (try clear hi); have hcz52_0 : w51.cell? ⟨gb806, 0, none⟩ = some (.int .i64 t797) := (blk_cell BK806.out 0).trans rfl; have hcz52_1 : w51.cell? ⟨gb806, 1, none⟩ = some (.int .i64 t798) := (blk_cell BK806.out 1).trans rfl; have hfz52_0 := blk_frozen BK806.out 0; have hfz52_1 := blk_frozen BK806.out 1; have hcz53_0 : w51.cell? ⟨gb808, 0, none⟩ = some (.int .i64 t803) := (blk_cell BK808.out 0).trans rfl; have hcz53_1 : w51.cell? ⟨gb808, 1, none⟩ = some (.int .i64 t804) := (blk_cell BK808.out 1).trans rfl; have hfz53_0 := blk_frozen BK808.out 0; have hfz53_1 := blk_frozen BK808.out 1) | (go_at_call 31; (with_reducible refine (ratio_Compare.calls kj5 t797 t798 t803 t804 t814 _ A42.out).mono ?_); rintro e w54 ⟨rfl, hb⟩; replace BK806 := kb BK806 hb; replace BK807 := kb BK807 hb; replace BK808 := kb BK808 hb; replace HB := wb HB hb; (try clear hb); (try clear hb2); (try clear hk); (try clear hi)))
       go_meet
       case rel => exact ⟨_, (decide (t814 > 0)), (by first | rfl | (simp; done) | (simp [*]; done)), H', ⟨by have := HJ5.out; first | omega | exact Nat.le_refl _⟩, ⟨bq BK806⟩, ⟨bq BK807⟩, ⟨bq BK808⟩, ⟨bw HB⟩⟩
      ·rw [if_neg c41] at H
       have c41b0 : decide (t813 ≤ 0) = false := decide_eq_false c41
       clear c41
       have H' := Aside0.mk H
       clear H
       obtain ⟨hnb55, hnc55⟩ := n2 NB806_807
       obtain ⟨hnb56, hnc56⟩ := n2 NB806_808
       have hcz57_0 : wc.cell? ⟨gb806, 0, none⟩ = some (.int .i64 t797) := (blk_cell BK806.out 0).trans rfl
       have hcz57_1 : wc.cell? ⟨gb806, 1, none⟩ = some (.int .i64 t798) := (blk_cell BK806.out 1).trans rfl
       have hfz57_0 := blk_frozen BK806.out 0
       have hfz57_1 := blk_frozen BK806.out 1
       obtain ⟨hnb58, hnc58⟩ := n2 NB807_808
       have hcz59_0 : wc.cell? ⟨gb807, 0, none⟩ = some (.int .i64 t800) := (blk_cell BK807.out 0).trans rfl
       have hcz59_1 : wc.cell? ⟨gb807, 1, none⟩ = some (.int .i64 t801) := (blk_cell BK807.out 1).trans rfl
       have hfz59_0 := blk_frozen BK807.out 0
       have hfz59_1 := blk_frozen BK807.out 1
       go_wp2_with (first | ((with_reducible refine gate_callee (f := 31) rfl ?_); refine goesL_ (some 39) rfl rfl Try.func31 (by kernel_rfl) rfl #[.agg #[.int .i64 t797, .int .i64 t798], .agg #[.int .i64 t800, .int .i64 t801]] rfl (by (try simp only [List.map_toArray, List.map_cons, List.map_nil]); first | done | rfl | (simp only [List.length_drop, List.length_take]; rfl)) ?_; (with_reducible refine (ratio_Compare.calls kj5 t797 t798 t800 t801 t812 _ A38.out).mono ?_); rintro e w60 ⟨rfl, hb⟩; refine ⟨_, rfl, ?_⟩; replace BK806 := kb BK806 hb; replace BK807 := kb BK807 hb; replace BK808 := kb BK808 hb; replace HB := wb HB hb; (try clear hb); (try clear hb2); (try clear hk); (try clear hi); have hcz61_0 : w60.cell? ⟨gb807, 0, none⟩ = some (.int .i64 t800) := (blk_cell BK807.out 0).trans rfl; have hcz61_1 : w60.cell? ⟨gb807, 1, none⟩ = some (.int .i64 t801) := (blk_cell BK807.out 1).trans rfl; have hfz61_0 := blk_frozen BK807.out 0; have hfz61_1 := blk_frozen BK807.out 1; have hcz62_0 : w60.cell? ⟨gb808, 0, none⟩ = some (.int .i64 t803) := (blk_cell BK808.out 0).trans rfl; have hcz62_1 : w60.cell? ⟨gb808, 1, none⟩ = some (.int .i64 t804) := (blk_cell BK808.out 1).trans rfl; have hfz62_0 := blk_frozen BK808.out 0; have hfz62_1 := blk_frozen BK808.out 1) | (go_at_call 31; (with_reducible refine (ratio_Compare.calls kj5 t800 t801 t803 t804 t813 _ A40.out).mono ?_); rintro e w63 ⟨rfl, hb⟩; replace BK806 := kb BK806 hb; replace BK807 := kb BK807 hb; replace BK808 := kb BK808 hb; replace HB := wb HB hb; (try clear hb); (try clear hb2); (try clear hk); (try clear hi)))
       go_meet
       case rel => exact ⟨_, (false), (by first | rfl | (simp; done) | (simp [*]; done)), H', ⟨by have := HJ5.out; first | omega | exact Nat.le_refl _⟩, ⟨bq BK806⟩, ⟨bq BK807⟩, ⟨bq BK808⟩, ⟨bw HB⟩⟩
     ·rw [if_neg c39] at H
      have c39b0 : decide (t812 ≤ 0) = false := decide_eq_false c39
      clear c39
      (first | rw [c39b0] | (simp only [i64_w, i32_w]; rw [c39b0]) | skip)
      have H' := Aside0.mk H
      clear H
      obtain ⟨hnb64, hnc64⟩ := n2 NB806_807
      obtain ⟨hnb65, hnc65⟩ := n2 NB806_808
      have hcz66_0 : wc.cell? ⟨gb806, 0, none⟩ = some (.int .i64 t797) := (blk_cell BK806.out 0).trans rfl
      have hcz66_1 : wc.cell? ⟨gb806, 1, none⟩ = some (.int .i64 t798) := (blk_cell BK806.out 1).trans rfl
      have hfz66_0 := blk_frozen BK806.out 0
      have hfz66_1 := blk_frozen BK806.out 1
      obtain ⟨hnb67, hnc67⟩ := n2 NB807_808
      have hcz68_0 : wc.cell? ⟨gb807, 0, none⟩ = some (.int .i64 t800) := (blk_cell BK807.out 0).trans rfl
      have hcz68_1 : wc.cell? ⟨gb807, 1, none⟩ = some (.int .i64 t801) := (blk_cell BK807.out 1).trans rfl
      have hfz68_0 := blk_frozen BK807.out 0
      have hfz68_1 := blk_frozen BK807.out 1
      go_wp2_with (first | ((with_reducible refine gate_callee (f := 31) rfl ?_); refine goesL_ (some 39) rfl rfl Try.func31 (by kernel_rfl) rfl #[.agg #[.int .i64 t797, .int .i64 t798], .agg #[.int .i64 t800, .int .i64 t801]] rfl (by (try simp only [List.map_toArray, List.map_cons, List.map_nil]); first | done | rfl | (simp only [List.length_drop, List.length_take]; rfl)) ?_; (with_reducible refine (ratio_Compare.calls kj5 t797 t798 t800 t801 t812 _ A38.out).mono ?_); rintro e w69 ⟨rfl, hb⟩; refine ⟨_, rfl, ?_⟩; replace BK806 := kb BK806 hb; replace BK807 := kb BK807 hb; replace BK808 := kb BK808 hb; replace HB := wb HB hb; (try clear hb); (try clear hb2); (try clear hk); (try clear hi)))
      go_meet
      case rel => exact ⟨_, (false), (by first | rfl | (simp; done) | (simp [*]; done)), H', ⟨by have := HJ5.out; first | omega | exact Nat.le_refl _⟩, ⟨bq BK806⟩, ⟨bq BK807⟩, ⟨bq BK808⟩, ⟨bw HB⟩⟩
    case rest =>
     clear HC37
     try clear c1
     try clear c2
     try clear p2
     try clear c3
     try clear c4
     try clear c5
     try clear c6
     try clear p6
     try clear c13
     try clear c14
     try clear c15
     try clear c16
     try clear c18
     try clear c19
     try clear c21
     try clear c25
     try clear c25b0
     try clear c25b1
     try clear c31
     try clear c36
     try clear c39
     try clear c39b0
     try clear c41
     try clear c41b0
     try clear c43
     try clear c44
     try clear c46
     try clear c55
     try clear c56
     try clear c58
     try clear c64
     try clear p64
     try clear c65
     try clear c67
     try clear hcz17_0
     try clear hcz17_1
     try clear hcz20_0
     try clear hcz20_1
     try clear hcz22_0
     try clear hcz22_1
     try clear hcz45_0
     try clear hcz45_1
     try clear hcz47_0
     try clear hcz47_1
     try clear hcz49_0
     try clear hcz49_1
     try clear hcz50_0
     try clear hcz50_1
     try clear hcz52_0
     try clear hcz52_1
     try clear hcz53_0
     try clear hcz53_1
     try clear hcz57_0
     try clear hcz57_1
     try clear hcz59_0
     try clear hcz59_1
     try clear hcz61_0
     try clear hcz61_1
     try clear hcz62_0
     try clear hcz62_1
     try clear hcz66_0
     try clear hcz66_1
     try clear hcz68_0
     try clear hcz68_1
     try clear hfz17_0
     try clear hfz17_1
     try clear hfz20_0
     try clear hfz20_1
     try clear hfz22_0
     try clear hfz22_1
     try clear hfz45_0
     try clear hfz45_1
     try clear hfz47_0
     try clear hfz47_1
     try clear hfz49_0
     try clear hfz49_1
     try clear hfz50_0
     try clear hfz50_1
     try clear hfz52_0
     try clear hfz52_1
     try clear hfz53_0
     try clear hfz53_1
     try clear hfz57_0
     try clear hfz57_1
     try clear hfz59_0
     try clear hfz59_1
     try clear hfz61_0
     try clear hfz61_1
     try clear hfz62_0
     try clear hfz62_1
     try clear hfz66_0
     try clear hfz66_1
     try clear hfz68_0
     try clear hfz68_1
     try clear p2
     try clear p6
     obtain ⟨kq, x52_36, rfl, HA, HJ36, BK806, BK807, BK808, HB⟩ := hcut
     cases kq with
     | zero => exact absurd HA.out (by simp [awardingbodylaw01_RatioOrders.j1])
     | succ kj36 =>
      have H := HA.out
      clear HA
      simp only [awardingbodylaw01_RatioOrders.j1] at H
      by_cases c70 : x52_36 = true
      ·subst c70
       have H1 : (some false) = some r := by rw [if_pos rfl] at H; exact H
       clear H
       have H := H1
       clear H1
       obtain rfl := Option.some.inj H
       go_wp2
       go_ret
       exact ⟨by first | rfl | (simp [errW_none, errW_some] <;> rfl) | (simp [*, errW_none, errW_some] <;> rfl), bw HB⟩
      ·replace c70 := Bool.eq_false_iff.mpr c70
       subst c70
       have H1 : ((ratio_Add.f kj36 t797 t798 t803 t804).bind fun bt815 => ((ratio_Add.f kj36 t800 t801 t803 t804).bind fun bt819 => (if bt815.2.2 = 0 then (if bt819.2.2 = 0 then ((ratio_Compare.f kj36 bt815.1 bt815.2.1 bt819.1 bt819.2.1).bind fun t823 => ((ratio_Compare.f kj36 t797 t798 t800 t801).bind fun t824 => (if t823 = t824 then ((awardingbodylaw01_awake.f kj36).bind fun t825 => (some t825)) else (some false)))) else ((awardingbodylaw01_awake.f kj36).bind fun t826 => (some t826))) else ((awardingbodylaw01_awake.f kj36).bind fun t827 => (some t827))))) = some r := by rw [if_neg (show ¬ (false = true) by decide)] at H; exact H
       clear H
       have H := H1
       clear H1
       replace H := Option.bind_eq_some_iff.mp H
       obtain ⟨⟨t815, t816, t817⟩, A710, H⟩ := H
       replace H : ((ratio_Add.f kj36 t800 t801 t803 t804).bind fun bt819 => (if t817 = 0 then (if bt819.2.2 = 0 then ((ratio_Compare.f kj36 t815 t816 bt819.1 bt819.2.1).bind fun t823 => ((ratio_Compare.f kj36 t797 t798 t800 t801).bind fun t824 => (if t823 = t824 then ((awardingbodylaw01_awake.f kj36).bind fun t825 => (some t825)) else (some false)))) else ((awardingbodylaw01_awake.f kj36).bind fun t826 => (some t826))) else ((awardingbodylaw01_awake.f kj36).bind fun t827 => (some t827)))) = some r := H
       have A71 := Aside0.mk A710
       clear A710
       replace H := Option.bind_eq_some_iff.mp H
       obtain ⟨⟨t819, t820, t821⟩, A720, H⟩ := H
       replace H : (if t817 = 0 then (if t821 = 0 then ((ratio_Compare.f kj36 t815 t816 t819 t820).bind fun t823 => ((ratio_Compare.f kj36 t797 t798 t800 t801).bind fun t824 => (if t823 = t824 then ((awardingbodylaw01_awake.f kj36).bind fun t825 => (some t825)) else (some false)))) else ((awardingbodylaw01_awake.f kj36).bind fun t826 => (some t826))) else ((awardingbodylaw01_awake.f kj36).bind fun t827 => (some t827))) = some r := H
       have A72 := Aside0.mk A720
       clear A720
       by_cases c73 : t817 = 0
       ·rw [if_pos c73] at H
        have c73b0 : (t817 == 0) = true := beq_iff_eq.mpr c73
        have c73b1 : (t817 != 0) = false := bne_eq_false_iff_eq.mpr c73
        clear c73
        by_cases c74 : t821 = 0
        ·rw [if_pos c74] at H
         have c74b0 : (t821 == 0) = true := beq_iff_eq.mpr c74
         have c74b1 : (t821 != 0) = false := bne_eq_false_iff_eq.mpr c74
         clear c74
         replace H := Option.bind_eq_some_iff.mp H
         obtain ⟨t823, A750, H⟩ := H
         replace H : ((ratio_Compare.f kj36 t797 t798 t800 t801).bind fun t824 => (if t823 = t824 then ((awardingbodylaw01_awake.f kj36).bind fun t825 => (some t825)) else (some false))) = some r := H
         have A75 := Aside0.mk A750
         clear A750
         replace H := Option.bind_eq_some_iff.mp H
         obtain ⟨t824, A760, H⟩ := H
         replace H : (if t823 = t824 then ((awardingbodylaw01_awake.f kj36).bind fun t825 => (some t825)) else (some false)) = some r := H
         have A76 := Aside0.mk A760
         clear A760
         by_cases c77 : t823 = t824
         ·rw [if_pos c77] at H
          have c77b0 : (t823 == t824) = true := beq_iff_eq.mpr c77
          have c77b1 : (t823 != t824) = false := bne_eq_false_iff_eq.mpr c77
          clear c77
          replace H := Option.bind_eq_some_iff.mp H
          obtain ⟨t825, A780, H⟩ := H
          replace H : (some t825) = some r := H
          have A78 := Aside0.mk A780
          clear A780
          obtain rfl := Option.some.inj H
          obtain ⟨hnb79, hnc79⟩ := n2 NB806_807
          obtain ⟨hnb80, hnc80⟩ := n2 NB806_808
          have hcz81_0 : wc.cell? ⟨gb806, 0, none⟩ = some (.int .i64 t797) := (blk_cell BK806.out 0).trans rfl
          have hcz81_1 : wc.cell? ⟨gb806, 1, none⟩ = some (.int .i64 t798) := (blk_cell BK806.out 1).trans rfl
          have hfz81_0 := blk_frozen BK806.out 0
          have hfz81_1 := blk_frozen BK806.out 1
          obtain ⟨hnb82, hnc82⟩ := n2 NB808_807
          have hcz83_0 : wc.cell? ⟨gb808, 0, none⟩ = some (.int .i64 t803) := (blk_cell BK808.out 0).trans rfl
          have hcz83_1 : wc.cell? ⟨gb808, 1, none⟩ = some (.int .i64 t804) := (blk_cell BK808.out 1).trans rfl
          have hfz83_0 := blk_frozen BK808.out 0
          have hfz83_1 := blk_frozen BK808.out 1
          try go_wp2_with (first | ((with_reducible refine gate_callee (f := 39) rfl ?_); refine goesL_ (some 56) rfl rfl Try.func39 (by kernel_rfl) rfl #[.agg #[.int .i64 t797, .int .i64 t798], .agg #[.int .i64 t803, .int .i64 t804]] rfl (by (try simp only [List.map_toArray, List.map_cons, List.map_nil]); first | done | rfl | (simp only [List.length_drop, List.length_take]; rfl)) ?_; (with_reducible refine (ratio_Add.calls kj36 t797 t798 t803 t804 t815 t816 t817 _ A71.out).mono ?_); rintro e w84 ⟨rfl, hb⟩; refine ⟨_, rfl, ?_⟩; replace BK806 := kb BK806 hb; replace BK807 := kb BK807 hb; replace BK808 := kb BK808 hb; replace HB := wb HB hb; (try clear hb); (try clear hb2); (try clear hk); (try clear hi)) | ((with_reducible refine gate_dst (N := 7) rfl ?_); refine box_event ?hg (N := 7) ?hd (cs := #[.int .i64 0, .int .i64 0]) (t := 35) ?hr ?_; (case hd => rfl); (case hg => rfl); (case hr => first | (go_simp; done) | (go_simp; rfl)); intro gb818 hg w85 hbox hb; have BK818 := Aside0.mk (hbox); have GW818 := gs HB hg; have GE818 := gs HB hg; have NB806_818 := nl BK806 hg; have NB818_806 := nr BK806 hg; have NB807_818 := nl BK807 hg; have NB818_807 := nr BK807 hg; have NB808_818 := nl BK808 hg; have NB818_808 := nr BK808 hg; replace BK806 := kb BK806 hb; replace BK807 := kb BK807 hb; replace BK808 := kb BK808 hb; replace HB := wb HB hb; clear hb hbox hg; obtain ⟨hnb86, hnc86⟩ := n2 NB818_806; obtain ⟨hnb87, hnc87⟩ := n2 NB818_807; obtain ⟨hnb88, hnc88⟩ := n2 NB818_808; have hcz89_0 : w85.cell? ⟨gb818, 0, none⟩ = some (.int .i64 0) := (blk_cell BK818.out 0).trans rfl; have hcz89_1 : w85.cell? ⟨gb818, 1, none⟩ = some (.int .i64 0) := (blk_cell BK818.out 1).trans rfl; have hfz89_0 := blk_frozen BK818.out 0; have hfz89_1 := blk_frozen BK818.out 1; have hcz90_0 : w85.cell? ⟨gb807, 0, none⟩ = some (.int .i64 t800) := (blk_cell BK807.out 0).trans rfl; have hcz90_1 : w85.cell? ⟨gb807, 1, none⟩ = some (.int .i64 t801) := (blk_cell BK807.out 1).trans rfl; have hfz90_0 := blk_frozen BK807.out 0; have hfz90_1 := blk_frozen BK807.out 1; have hcz91_0 : w85.cell? ⟨gb808, 0, none⟩ = some (.int .i64 t803) := (blk_cell BK808.out 0).trans rfl; have hcz91_1 : w85.cell? ⟨gb808, 1, none⟩ = some (.int .i64 t804) := (blk_cell BK808.out 1).trans rfl; have hfz91_0 := blk_frozen BK808.out 0; have hfz91_1 := blk_frozen BK808.out 1) | ((with_reducible refine gate_callee (f := 39) rfl ?_); refine goesL_ (some 62) rfl rfl Try.func39 (by kernel_rfl) rfl #[.agg #[.int .i64 t800, .int .i64 t801], .agg #[.int .i64 t803, .int .i64 t804]] rfl (by (try simp only [List.map_toArray, List.map_cons, List.map_nil]); first | done | rfl | (simp only [List.length_drop, List.length_take]; rfl)) ?_; (with_reducible refine (ratio_Add.calls kj36 t800 t801 t803 t804 t819 t820 t821 _ A72.out).mono ?_); rintro e w92 ⟨rfl, hb⟩; refine ⟨_, rfl, ?_⟩; replace BK806 := kb BK806 hb; replace BK807 := kb BK807 hb; replace BK808 := kb BK808 hb; replace BK818 := Aside0.mk (blk_below (g := gb818) (o := .cells #[.int .i64 t815, .int .i64 t816] 35 (0, 0)) (by refine pe ?_; refine blk_put (cs := #[.int .i64 t815, .int .i64 0]) ?_ 1 _ rfl; refine pe ?_; refine blk_put (cs := #[.int .i64 0, .int .i64 0]) ?_ 0 _ rfl; refine pe ?_; exact BK818.out) hb); replace HB := wb HB hb; (try clear hb); (try clear hb2); (try clear hk); (try clear hi)) | ((with_reducible refine gate_dst (N := 9) rfl ?_); refine box_event ?hg (N := 9) ?hd (cs := #[.int .i64 0, .int .i64 0]) (t := 35) ?hr ?_; (case hd => rfl); (case hg => rfl); (case hr => first | (go_simp; done) | (go_simp; rfl)); intro gb822 hg w93 hbox hb; have BK822 := Aside0.mk (hbox); have GW822 := gs HB hg; have GE822 := gs HB hg; have NB806_822 := nl BK806 hg; have NB822_806 := nr BK806 hg; have NB807_822 := nl BK807 hg; have NB822_807 := nr BK807 hg; have NB808_822 := nl BK808 hg; have NB822_808 := nr BK808 hg; have NB818_822 := nl BK818 hg; have NB822_818 := nr BK818 hg; replace BK806 := kb BK806 hb; replace BK807 := kb BK807 hb; replace BK808 := kb BK808 hb; replace BK818 := kb BK818 hb; replace HB := wb HB hb; clear hb hbox hg; obtain ⟨hnb94, hnc94⟩ := n2 NB822_806; obtain ⟨hnb95, hnc95⟩ := n2 NB822_807; obtain ⟨hnb96, hnc96⟩ := n2 NB822_808; obtain ⟨hnb97, hnc97⟩ := n2 NB822_818; have hcz98_0 : w93.cell? ⟨gb822, 0, none⟩ = some (.int .i64 0) := (blk_cell BK822.out 0).trans rfl; have hcz98_1 : w93.cell? ⟨gb822, 1, none⟩ = some (.int .i64 0) := (blk_cell BK822.out 1).trans rfl; have hfz98_0 := blk_frozen BK822.out 0; have hfz98_1 := blk_frozen BK822.out 1))
          have n0_ : Aside0 (((w93.setCell ⟨gb822, 0, none⟩ (.int .i64 t819)).setCell ⟨gb822, 1, none⟩ (.int .i64 t820)).heap[gb806]? = some (.cells #[.int .i64 t797, .int .i64 t798] 35 (0, 0))) := ⟨bq BK806⟩
          have n1_ : Aside0 (((w93.setCell ⟨gb822, 0, none⟩ (.int .i64 t819)).setCell ⟨gb822, 1, none⟩ (.int .i64 t820)).heap[gb807]? = some (.cells #[.int .i64 t800, .int .i64 t801] 35 (0, 0))) := ⟨bq BK807⟩
          have n2_ : Aside0 (((w93.setCell ⟨gb822, 0, none⟩ (.int .i64 t819)).setCell ⟨gb822, 1, none⟩ (.int .i64 t820)).heap[gb808]? = some (.cells #[.int .i64 t803, .int .i64 t804] 35 (0, 0))) := ⟨bq BK808⟩
          have n3_ : Aside0 (((w93.setCell ⟨gb822, 0, none⟩ (.int .i64 t819)).setCell ⟨gb822, 1, none⟩ (.int .i64 t820)).heap[gb818]? = some (.cells #[.int .i64 t815, .int .i64 t816] 35 (0, 0))) := ⟨bq BK818⟩
          have n4_ : Aside0 (((w93.setCell ⟨gb822, 0, none⟩ (.int .i64 t819)).setCell ⟨gb822, 1, none⟩ (.int .i64 t820)).heap[gb822]? = some (.cells #[.int .i64 t819, .int .i64 t820] 35 (0, 0))) := ⟨by refine pe ?_; refine blk_put (cs := #[.int .i64 t819, .int .i64 0]) ?_ 1 _ rfl; refine pe ?_; refine blk_put (cs := #[.int .i64 0, .int .i64 0]) ?_ 0 _ rfl; refine pe ?_; exact BK822.out⟩
          have n5_ : Aside0 (Below w.heap.size w ((w93.setCell ⟨gb822, 0, none⟩ (.int .i64 t819)).setCell ⟨gb822, 1, none⟩ (.int .i64 t820))) := ⟨bw HB⟩
          (try clear BK806)
          (try clear BK807)
          (try clear BK808)
          (try clear BK818)
          (try clear BK822)
          (try clear HB)
          generalize ((w93.setCell ⟨gb822, 0, none⟩ (.int .i64 t819)).setCell ⟨gb822, 1, none⟩ (.int .i64 t820)) = w99 at n0_ n1_ n2_ n3_ n4_ n5_ ⊢
          have BK806 := n0_
          have BK807 := n1_
          have BK808 := n2_
          have BK818 := n3_
          have BK822 := n4_
          have HB := n5_
          clear n0_ n1_ n2_ n3_ n4_ n5_
          have n0_ := Aside0.mk (blk_drew BK806.out)
          have n1_ := Aside0.mk (blk_drew BK807.out)
          have n2_ := Aside0.mk (blk_drew BK808.out)
          have n3_ := Aside0.mk (blk_drew BK818.out)
          have n4_ := Aside0.mk (blk_drew BK822.out)
          have n5_ := Aside0.mk (below_drew1 HB.out)
          clear BK806
          clear BK807
          clear BK808
          clear BK818
          clear BK822
          clear HB
          have BK806 := n0_
          have BK807 := n1_
          have BK808 := n2_
          have BK818 := n3_
          have BK822 := n4_
          have HB := n5_
          clear n0_ n1_ n2_ n3_ n4_ n5_
          refine start_ (n := 19) (S := fun w' => w'.cell? ⟨gb818, 0, none⟩ = some (.int .i64 t815) ∧ w'.cell? ⟨gb818, 1, none⟩ = some (.int .i64 t816) ∧ w'.cell? ⟨gb822, 0, none⟩ = some (.int .i64 t819) ∧ w'.cell? ⟨gb822, 1, none⟩ = some (.int .i64 t820) ∧ w'.cell? ⟨gb806, 0, none⟩ = some (.int .i64 t797) ∧ w'.cell? ⟨gb806, 1, none⟩ = some (.int .i64 t798) ∧ w'.cell? ⟨gb807, 0, none⟩ = some (.int .i64 t800) ∧ w'.cell? ⟨gb807, 1, none⟩ = some (.int .i64 t801)) (ds := []) #[false, false, false, false, false, false, false, false, false, false, false, false, false, false, false, false, false, false, false] (by kernel_rfl) rfl rfl ⟨(blk_cell BK818.out 0).trans rfl, (blk_cell BK818.out 1).trans rfl, (blk_cell BK822.out 0).trans rfl, (blk_cell BK822.out 1).trans rfl, (blk_cell BK806.out 0).trans rfl, (blk_cell BK806.out 1).trans rfl, (blk_cell BK807.out 0).trans rfl, (blk_cell BK807.out 1).trans rfl⟩ (fun hHeld => ?_); refine with_tabW awardingbodylaw01_RatioOrders.tab9 awardingbodylaw01_RatioOrders.bits9 (fun HT_ HW_ => ?_)
          generalize w99.drew = w100 at BK806 BK807 BK808 BK818 BK822 HB hHeld ⊢
          refine pure_ (i := 0) (N := some 65) (v := ?_) (a' := ?_) #[true, false, false, false, false, false, false, false, false, false, false, false, false, false, false, false, false, false, false] rfl rfl (any_of HT_.out (by kernel_rfl)) (fun _ _ _ h => h) (Or.inl ⟨by rfl, ?_⟩) ?_ ?_
          rotate_left
          ·intro w'
           go_simp
           with_reducible rfl
          rotate_left
          ·simp only [Act.put, List.setIfInBounds_toArray, List.set_cons_zero, List.set_cons_succ, i64_w, i32_w]
           rfl
          refine pure_ (i := 1) (N := some 66) (v := ?_) (a' := ?_) #[true, true, false, false, false, false, false, false, false, false, false, false, false, false, false, false, false, false, false] rfl rfl (any_of HT_.out (by kernel_rfl)) (fun _ _ _ h => h) (Or.inl ⟨by rfl, ?_⟩) ?_ ?_
          rotate_left
          ·intro w'
           go_simp
           with_reducible rfl
          rotate_left
          ·simp only [Act.put, List.setIfInBounds_toArray, List.set_cons_zero, List.set_cons_succ, i64_w, i32_w]
           rfl
          refine pure_ (i := 2) (N := some 67) (v := ?_) (a' := ?_) #[true, true, true, false, false, false, false, false, false, false, false, false, false, false, false, false, false, false, false] rfl rfl (any_of HT_.out (by kernel_rfl)) (fun _ _ _ h => h) (Or.inl ⟨by rfl, ?_⟩) ?_ ?_
          rotate_left
          ·intro w'
           go_simp
           with_reducible rfl
          rotate_left
          ·simp only [Act.put, List.setIfInBounds_toArray, List.set_cons_zero, List.set_cons_succ, i64_w, i32_w]
           rfl
          refine pure_ (i := 3) (N := some 68) (v := ?_) (a' := ?_) #[true, true, true, true, false, false, false, false, false, false, false, false, false, false, false, false, false, false, false] rfl rfl (any_of HT_.out (by kernel_rfl)) (fun _ _ _ h => h) (Or.inl ⟨by rfl, ?_⟩) ?_ ?_
          rotate_left
          ·intro w'
           go_simp
           with_reducible rfl
          rotate_left
          ·simp only [Act.put, List.setIfInBounds_toArray, List.set_cons_zero, List.set_cons_succ, i64_w, i32_w]
           rfl
          refine pure_ (i := 4) (N := some 69) (v := ?_) (a' := ?_) #[true, true, true, true, true, false, false, false, false, false, false, false, false, false, false, false, false, false, false] rfl rfl (any_of HT_.out (by kernel_rfl)) (fun _ _ _ h => h) (Or.inl ⟨by rfl, ?_⟩) ?_ ?_
          rotate_left
          ·intro w'
           go_simp
           with_reducible rfl
          rotate_left
          ·simp only [Act.put, List.setIfInBounds_toArray, List.set_cons_zero, List.set_cons_succ, i64_w, i32_w]
           rfl
          refine pure_ (i := 5) (N := some 70) (v := ?_) (a' := ?_) #[true, true, true, true, true, true, false, false, false, false, false, false, false, false, false, false, false, false, false] rfl rfl (any_of HT_.out (by kernel_rfl)) (fun _ _ _ h => h) (Or.inl ⟨by rfl, ?_⟩) ?_ ?_
          rotate_left
          ·intro w'
           go_simp
           with_reducible rfl
          rotate_left
          ·simp only [Act.put, List.setIfInBounds_toArray, List.set_cons_zero, List.set_cons_succ, i64_w, i32_w]
           rfl
          refine pure_ (i := 6) (N := some 71) (v := ?_) (a' := ?_) #[true, true, true, true, true, true, true, false, false, false, false, false, false, false, false, false, false, false, false] rfl rfl (any_of HT_.out (by kernel_rfl)) (fun _ _ _ h => h) (Or.inl ⟨by rfl, ?_⟩) ?_ ?_
          rotate_left
          ·intro w'
           go_simp
           with_reducible rfl
          rotate_left
          ·simp only [Act.put, List.setIfInBounds_toArray, List.set_cons_zero, List.set_cons_succ, i64_w, i32_w]
           rfl
          refine take_ (i := 7) (N := some 72) (v := ?_) (a' := ?_) #[true, true, true, true, true, true, true, true, false, false, false, false, false, false, false, false, false, false, false] rfl rfl (take_ofW HT_.out HW_.out (by kernel_rfl)) (fun _ _ _ h => h) (Or.inl ⟨by rfl, ?_⟩) hHeld ?_ ?_
          rotate_left
          ·rintro w' ⟨s0, s1, s2, s3, s4, s5, s6, s7⟩
           go_simp
           with_reducible rfl
          rotate_left
          ·simp only [Act.put, List.setIfInBounds_toArray, List.set_cons_zero, List.set_cons_succ, i64_w, i32_w]
           rfl
          refine take_ (i := 8) (N := some 73) (v := ?_) (a' := ?_) #[true, true, true, true, true, true, true, true, true, false, false, false, false, false, false, false, false, false, false] rfl rfl (take_ofW HT_.out HW_.out (by kernel_rfl)) (fun _ _ _ h => h) (Or.inl ⟨by rfl, ?_⟩) hHeld ?_ ?_
          rotate_left
          ·rintro w' ⟨s0, s1, s2, s3, s4, s5, s6, s7⟩
           go_simp
           with_reducible rfl
          rotate_left
          ·simp only [Act.put, List.setIfInBounds_toArray, List.set_cons_zero, List.set_cons_succ, i64_w, i32_w]
           rfl
          refine take_ (i := 10) (N := some 75) (v := ?_) (a' := ?_) #[true, true, true, true, true, true, true, true, true, false, true, false, false, false, false, false, false, false, false] rfl rfl (take_ofW HT_.out HW_.out (by kernel_rfl)) (fun _ _ _ h => h) (Or.inl ⟨by rfl, ?_⟩) hHeld ?_ ?_
          rotate_left
          ·rintro w' ⟨s0, s1, s2, s3, s4, s5, s6, s7⟩
           go_simp
           with_reducible rfl
          rotate_left
          ·simp only [Act.put, List.setIfInBounds_toArray, List.set_cons_zero, List.set_cons_succ, i64_w, i32_w]
           rfl
          refine take_ (i := 11) (N := some 76) (v := ?_) (a' := ?_) #[true, true, true, true, true, true, true, true, true, false, true, true, false, false, false, false, false, false, false] rfl rfl (take_ofW HT_.out HW_.out (by kernel_rfl)) (fun _ _ _ h => h) (Or.inl ⟨by rfl, ?_⟩) hHeld ?_ ?_
          rotate_left
          ·rintro w' ⟨s0, s1, s2, s3, s4, s5, s6, s7⟩
           go_simp
           with_reducible rfl
          rotate_left
          ·simp only [Act.put, List.setIfInBounds_toArray, List.set_cons_zero, List.set_cons_succ, i64_w, i32_w]
           rfl
          refine one_ (i := 9) (N := some 74) #[true, true, true, true, true, true, true, true, true, true, true, true, false, false, false, false, false, false, false] rfl rfl (one_of HT_.out (by kernel_rfl)) (by decide) (fun K hK => ?_)
          refine goes_ Try.func31 (by kernel_rfl) rfl #[.agg #[.int .i64 t815, .int .i64 t816], .agg #[.int .i64 t819, .int .i64 t820]] (by rfl) rfl rfl (by (try simp only [List.map_toArray, List.map_cons, List.map_nil]); first | done | rfl | (simp only [List.length_drop, List.length_take]; rfl)) ?_
          with_reducible refine (ratio_Compare.calls kj36 t815 t816 t819 t820 t823 _ A75.out).mono ?_
          rintro e w101 ⟨rfl, hb⟩
          refine ⟨_, rfl, ?_⟩
          have n0_ := kb BK806 hb
          have n1_ := kb BK807 hb
          have n2_ := kb BK808 hb
          have n3_ := kb BK818 hb
          have n4_ := kb BK822 hb
          have n5_ := wb HB hb
          clear BK806
          clear BK807
          clear BK808
          clear BK818
          clear BK822
          clear HB
          have BK806 := n0_
          have BK807 := n1_
          have BK808 := n2_
          have BK818 := n3_
          have BK822 := n4_
          have HB := n5_
          clear n0_ n1_ n2_ n3_ n4_ n5_
          (try clear hb)
          (try clear hb2)
          (try clear hk)
          (try clear hi)
          refine hK.out _ _ ⟨(blk_cell BK818.out 0).trans rfl, (blk_cell BK818.out 1).trans rfl, (blk_cell BK822.out 0).trans rfl, (blk_cell BK822.out 1).trans rfl, (blk_cell BK806.out 0).trans rfl, (blk_cell BK806.out 1).trans rfl, (blk_cell BK807.out 0).trans rfl, (blk_cell BK807.out 1).trans rfl⟩ (fun hHeld => ?_)
          clear hK K
          refine norm_ (a' := ?_) ?_ ?_
          rotate_left
          ·show Act.put _ (some 74) _ = _
           simp only [Act.put, List.setIfInBounds_toArray, List.set_cons_zero, List.set_cons_succ, i64_w, i32_w]
           rfl
          refine one_ (i := 12) (N := some 77) #[true, true, true, true, true, true, true, true, true, true, true, true, true, false, false, false, false, false, false] rfl rfl (one_of HT_.out (by kernel_rfl)) (by decide) (fun K hK => ?_)
          refine goes_ Try.func31 (by kernel_rfl) rfl #[.agg #[.int .i64 t797, .int .i64 t798], .agg #[.int .i64 t800, .int .i64 t801]] (by rfl) rfl rfl (by (try simp only [List.map_toArray, List.map_cons, List.map_nil]); first | done | rfl | (simp only [List.length_drop, List.length_take]; rfl)) ?_
          with_reducible refine (ratio_Compare.calls kj36 t797 t798 t800 t801 t824 _ A76.out).mono ?_
          rintro e w102 ⟨rfl, hb⟩
          refine ⟨_, rfl, ?_⟩
          have n0_ := kb BK806 hb
          have n1_ := kb BK807 hb
          have n2_ := kb BK808 hb
          have n3_ := kb BK818 hb
          have n4_ := kb BK822 hb
          have n5_ := wb HB hb
          clear BK806
          clear BK807
          clear BK808
          clear BK818
          clear BK822
          clear HB
          have BK806 := n0_
          have BK807 := n1_
          have BK808 := n2_
          have BK818 := n3_
          have BK822 := n4_
          have HB := n5_
          clear n0_ n1_ n2_ n3_ n4_ n5_
          (try clear hb)
          (try clear hb2)
          (try clear hk)
          (try clear hi)
          refine hK.out _ _ ⟨(blk_cell BK818.out 0).trans rfl, (blk_cell BK818.out 1).trans rfl, (blk_cell BK822.out 0).trans rfl, (blk_cell BK822.out 1).trans rfl, (blk_cell BK806.out 0).trans rfl, (blk_cell BK806.out 1).trans rfl, (blk_cell BK807.out 0).trans rfl, (blk_cell BK807.out 1).trans rfl⟩ (fun hHeld => ?_)
          clear hK K
          refine norm_ (a' := ?_) ?_ ?_
          rotate_left
          ·show Act.put _ (some 77) _ = _
           simp only [Act.put, List.setIfInBounds_toArray, List.set_cons_zero, List.set_cons_succ, i64_w, i32_w]
           rfl
          refine pure_ (i := 13) (N := some 78) (v := ?_) (a' := ?_) #[true, true, true, true, true, true, true, true, true, true, true, true, true, true, false, false, false, false, false] rfl rfl (any_of HT_.out (by kernel_rfl)) (fun _ _ _ h => h) (Or.inl ⟨by rfl, ?_⟩) ?_ ?_
          rotate_left
          ·intro w'
           go_simp
           with_reducible rfl
          rotate_left
          ·simp only [Act.put, List.setIfInBounds_toArray, List.set_cons_zero, List.set_cons_succ, i64_w, i32_w]
           rfl
          refine pure_ (i := 14) (N := some 79) (v := ?_) (a' := ?_) #[true, true, true, true, true, true, true, true, true, true, true, true, true, true, true, false, false, false, false] rfl rfl (any_of HT_.out (by kernel_rfl)) (fun _ _ _ h => h) (Or.inl ⟨by rfl, ?_⟩) ?_ ?_
          rotate_left
          ·intro w'
           go_simp
           with_reducible rfl
          rotate_left
          ·simp only [Act.put, List.setIfInBounds_toArray, List.set_cons_zero, List.set_cons_succ, i64_w, i32_w]
           rfl
          refine pure_ (i := 15) (N := some 80) (v := ?_) (a' := ?_) #[true, true, true, true, true, true, true, true, true, true, true, true, true, true, true, true, false, false, false] rfl rfl (any_of HT_.out (by kernel_rfl)) (fun _ _ _ h => h) (Or.inl ⟨by rfl, ?_⟩) ?_ ?_
          rotate_left
          ·intro w'
           go_simp
           with_reducible rfl
          rotate_left
          ·simp only [Act.put, List.setIfInBounds_toArray, List.set_cons_zero, List.set_cons_succ, i64_w, i32_w]
           rfl
          refine one_ (i := 16) (N := some 81) #[true, true, true, true, true, true, true, true, true, true, true, true, true, true, true, true, true, false, false] rfl rfl (one_of HT_.out (by kernel_rfl)) (by decide) (fun K hK => ?_)
          refine goes_ Try.func18 (by kernel_rfl) rfl #[] (by rfl) rfl rfl (by (try simp only [List.map_toArray, List.map_cons, List.map_nil]); first | done | rfl | (simp only [List.length_drop, List.length_take]; rfl)) ?_
          with_reducible refine (awardingbodylaw01_awake.calls kj36  t825 _ A78.out).mono ?_
          rintro e w103 ⟨rfl, hb⟩
          refine ⟨_, rfl, ?_⟩
          have n0_ := kb BK806 hb
          have n1_ := kb BK807 hb
          have n2_ := kb BK808 hb
          have n3_ := kb BK818 hb
          have n4_ := kb BK822 hb
          have n5_ := wb HB hb
          clear BK806
          clear BK807
          clear BK808
          clear BK818
          clear BK822
          clear HB
          have BK806 := n0_
          have BK807 := n1_
          have BK808 := n2_
          have BK818 := n3_
          have BK822 := n4_
          have HB := n5_
          clear n0_ n1_ n2_ n3_ n4_ n5_
          (try clear hb)
          (try clear hb2)
          (try clear hk)
          (try clear hi)
          refine hK.out _ _ ⟨(blk_cell BK818.out 0).trans rfl, (blk_cell BK818.out 1).trans rfl, (blk_cell BK822.out 0).trans rfl, (blk_cell BK822.out 1).trans rfl, (blk_cell BK806.out 0).trans rfl, (blk_cell BK806.out 1).trans rfl, (blk_cell BK807.out 0).trans rfl, (blk_cell BK807.out 1).trans rfl⟩ (fun hHeld => ?_)
          clear hK K
          refine norm_ (a' := ?_) ?_ ?_
          rotate_left
          ·show Act.put _ (some 81) _ = _
           simp only [Act.put, List.setIfInBounds_toArray, List.set_cons_zero, List.set_cons_succ, i64_w, i32_w]
           rfl
          refine pure_ (i := 17) (N := some 82) (v := ?_) (a' := ?_) #[true, true, true, true, true, true, true, true, true, true, true, true, true, true, true, true, true, true, false] rfl rfl (any_of HT_.out (by kernel_rfl)) (fun _ _ _ h => h) (Or.inl ⟨by rfl, ?_⟩) ?_ ?_
          rotate_left
          ·intro w'
           go_simp
           with_reducible rfl
          rotate_left
          ·simp only [Act.put, List.setIfInBounds_toArray, List.set_cons_zero, List.set_cons_succ, i64_w, i32_w]
           rfl
          refine pure_ (i := 18) (N := some 2) (v := ?_) (a' := ?_) #[true, true, true, true, true, true, true, true, true, true, true, true, true, true, true, true, true, true, true] rfl rfl (any_of HT_.out (by kernel_rfl)) (fun _ _ _ h => h) (Or.inl ⟨by rfl, ?_⟩) ?_ ?_
          rotate_left
          ·intro w'
           go_simp
           with_reducible rfl
          rotate_left
          ·simp only [Act.put, List.setIfInBounds_toArray, List.set_cons_zero, List.set_cons_succ, i64_w, i32_w]
           rfl
          refine done_ (done_of HT_.out (by kernel_rfl)) ?_
          try go_wp2
          go_ret
          exact ⟨by first | rfl | (simp [errW_none, errW_some] <;> rfl) | (simp [*, errW_none, errW_some] <;> rfl), bw HB⟩
         ·rw [if_neg c77] at H
          have c77b0 : (t823 == t824) = false := beq_eq_false_iff_ne.mpr c77
          have c77b1 : (t823 != t824) = true := bne_iff_ne.mpr c77
          obtain rfl := Option.some.inj H
          obtain ⟨hnb104, hnc104⟩ := n2 NB806_807
          obtain ⟨hnb105, hnc105⟩ := n2 NB806_808
          have hcz106_0 : wc.cell? ⟨gb806, 0, none⟩ = some (.int .i64 t797) := (blk_cell BK806.out 0).trans rfl
          have hcz106_1 : wc.cell? ⟨gb806, 1, none⟩ = some (.int .i64 t798) := (blk_cell BK806.out 1).trans rfl
          have hfz106_0 := blk_frozen BK806.out 0
          have hfz106_1 := blk_frozen BK806.out 1
          obtain ⟨hnb107, hnc107⟩ := n2 NB808_807
          have hcz108_0 : wc.cell? ⟨gb808, 0, none⟩ = some (.int .i64 t803) := (blk_cell BK808.out 0).trans rfl
          have hcz108_1 : wc.cell? ⟨gb808, 1, none⟩ = some (.int .i64 t804) := (blk_cell BK808.out 1).trans rfl
          have hfz108_0 := blk_frozen BK808.out 0
          have hfz108_1 := blk_frozen BK808.out 1
          try go_wp2_with (first | ((with_reducible refine gate_callee (f := 39) rfl ?_); refine goesL_ (some 56) rfl rfl Try.func39 (by kernel_rfl) rfl #[.agg #[.int .i64 t797, .int .i64 t798], .agg #[.int .i64 t803, .int .i64 t804]] rfl (by (try simp only [List.map_toArray, List.map_cons, List.map_nil]); first | done | rfl | (simp only [List.length_drop, List.length_take]; rfl)) ?_; (with_reducible refine (ratio_Add.calls kj36 t797 t798 t803 t804 t815 t816 t817 _ A71.out).mono ?_); rintro e w109 ⟨rfl, hb⟩; refine ⟨_, rfl, ?_⟩; replace BK806 := kb BK806 hb; replace BK807 := kb BK807 hb; replace BK808 := kb BK808 hb; replace HB := wb HB hb; (try clear hb); (try clear hb2); (try clear hk); (try clear hi)) | ((with_reducible refine gate_dst (N := 7) rfl ?_); refine box_event ?hg (N := 7) ?hd (cs := #[.int .i64 0, .int .i64 0]) (t := 35) ?hr ?_; (case hd => rfl); (case hg => rfl); (case hr => first | (go_simp; done) | (go_simp; rfl)); intro gb818 hg w110 hbox hb; have BK818 := Aside0.mk (hbox); have GW818 := gs HB hg; have GE818 := gs HB hg; have NB806_818 := nl BK806 hg; have NB818_806 := nr BK806 hg; have NB807_818 := nl BK807 hg; have NB818_807 := nr BK807 hg; have NB808_818 := nl BK808 hg; have NB818_808 := nr BK808 hg; replace BK806 := kb BK806 hb; replace BK807 := kb BK807 hb; replace BK808 := kb BK808 hb; replace HB := wb HB hb; clear hb hbox hg; obtain ⟨hnb111, hnc111⟩ := n2 NB818_806; obtain ⟨hnb112, hnc112⟩ := n2 NB818_807; obtain ⟨hnb113, hnc113⟩ := n2 NB818_808; have hcz114_0 : w110.cell? ⟨gb818, 0, none⟩ = some (.int .i64 0) := (blk_cell BK818.out 0).trans rfl; have hcz114_1 : w110.cell? ⟨gb818, 1, none⟩ = some (.int .i64 0) := (blk_cell BK818.out 1).trans rfl; have hfz114_0 := blk_frozen BK818.out 0; have hfz114_1 := blk_frozen BK818.out 1; have hcz115_0 : w110.cell? ⟨gb807, 0, none⟩ = some (.int .i64 t800) := (blk_cell BK807.out 0).trans rfl; have hcz115_1 : w110.cell? ⟨gb807, 1, none⟩ = some (.int .i64 t801) := (blk_cell BK807.out 1).trans rfl; have hfz115_0 := blk_frozen BK807.out 0; have hfz115_1 := blk_frozen BK807.out 1; have hcz116_0 : w110.cell? ⟨gb808, 0, none⟩ = some (.int .i64 t803) := (blk_cell BK808.out 0).trans rfl; have hcz116_1 : w110.cell? ⟨gb808, 1, none⟩ = some (.int .i64 t804) := (blk_cell BK808.out 1).trans rfl; have hfz116_0 := blk_frozen BK808.out 0; have hfz116_1 := blk_frozen BK808.out 1) | ((with_reducible refine gate_callee (f := 39) rfl ?_); refine goesL_ (some 62) rfl rfl Try.func39 (by kernel_rfl) rfl #[.agg #[.int .i64 t800, .int .i64 t801], .agg #[.int .i64 t803, .int .i64 t804]] rfl (by (try simp only [List.map_toArray, List.map_cons, List.map_nil]); first | done | rfl | (simp only [List.length_drop, List.length_take]; rfl)) ?_; (with_reducible refine (ratio_Add.calls kj36 t800 t801 t803 t804 t819 t820 t821 _ A72.out).mono ?_); rintro e w117 ⟨rfl, hb⟩; refine ⟨_, rfl, ?_⟩; replace BK806 := kb BK806 hb; replace BK807 := kb BK807 hb; replace BK808 := kb BK808 hb; replace BK818 := Aside0.mk (blk_below (g := gb818) (o := .cells #[.int .i64 t815, .int .i64 t816] 35 (0, 0)) (by refine pe ?_; refine blk_put (cs := #[.int .i64 t815, .int .i64 0]) ?_ 1 _ rfl; refine pe ?_; refine blk_put (cs := #[.int .i64 0, .int .i64 0]) ?_ 0 _ rfl; refine pe ?_; exact BK818.out) hb); replace HB := wb HB hb; (try clear hb); (try clear hb2); (try clear hk); (try clear hi)) | ((with_reducible refine gate_dst (N := 9) rfl ?_); refine box_event ?hg (N := 9) ?hd (cs := #[.int .i64 0, .int .i64 0]) (t := 35) ?hr ?_; (case hd => rfl); (case hg => rfl); (case hr => first | (go_simp; done) | (go_simp; rfl)); intro gb822 hg w118 hbox hb; have BK822 := Aside0.mk (hbox); have GW822 := gs HB hg; have GE822 := gs HB hg; have NB806_822 := nl BK806 hg; have NB822_806 := nr BK806 hg; have NB807_822 := nl BK807 hg; have NB822_807 := nr BK807 hg; have NB808_822 := nl BK808 hg; have NB822_808 := nr BK808 hg; have NB818_822 := nl BK818 hg; have NB822_818 := nr BK818 hg; replace BK806 := kb BK806 hb; replace BK807 := kb BK807 hb; replace BK808 := kb BK808 hb; replace BK818 := kb BK818 hb; replace HB := wb HB hb; clear hb hbox hg; obtain ⟨hnb119, hnc119⟩ := n2 NB822_806; obtain ⟨hnb120, hnc120⟩ := n2 NB822_807; obtain ⟨hnb121, hnc121⟩ := n2 NB822_808; obtain ⟨hnb122, hnc122⟩ := n2 NB822_818; have hcz123_0 : w118.cell? ⟨gb822, 0, none⟩ = some (.int .i64 0) := (blk_cell BK822.out 0).trans rfl; have hcz123_1 : w118.cell? ⟨gb822, 1, none⟩ = some (.int .i64 0) := (blk_cell BK822.out 1).trans rfl; have hfz123_0 := blk_frozen BK822.out 0; have hfz123_1 := blk_frozen BK822.out 1))
          have n0_ : Aside0 (((w118.setCell ⟨gb822, 0, none⟩ (.int .i64 t819)).setCell ⟨gb822, 1, none⟩ (.int .i64 t820)).heap[gb806]? = some (.cells #[.int .i64 t797, .int .i64 t798] 35 (0, 0))) := ⟨bq BK806⟩
          have n1_ : Aside0 (((w118.setCell ⟨gb822, 0, none⟩ (.int .i64 t819)).setCell ⟨gb822, 1, none⟩ (.int .i64 t820)).heap[gb807]? = some (.cells #[.int .i64 t800, .int .i64 t801] 35 (0, 0))) := ⟨bq BK807⟩
          have n2_ : Aside0 (((w118.setCell ⟨gb822, 0, none⟩ (.int .i64 t819)).setCell ⟨gb822, 1, none⟩ (.int .i64 t820)).heap[gb808]? = some (.cells #[.int .i64 t803, .int .i64 t804] 35 (0, 0))) := ⟨bq BK808⟩
          have n3_ : Aside0 (((w118.setCell ⟨gb822, 0, none⟩ (.int .i64 t819)).setCell ⟨gb822, 1, none⟩ (.int .i64 t820)).heap[gb818]? = some (.cells #[.int .i64 t815, .int .i64 t816] 35 (0, 0))) := ⟨bq BK818⟩
          have n4_ : Aside0 (((w118.setCell ⟨gb822, 0, none⟩ (.int .i64 t819)).setCell ⟨gb822, 1, none⟩ (.int .i64 t820)).heap[gb822]? = some (.cells #[.int .i64 t819, .int .i64 t820] 35 (0, 0))) := ⟨by refine pe ?_; refine blk_put (cs := #[.int .i64 t819, .int .i64 0]) ?_ 1 _ rfl; refine pe ?_; refine blk_put (cs := #[.int .i64 0, .int .i64 0]) ?_ 0 _ rfl; refine pe ?_; exact BK822.out⟩
          have n5_ : Aside0 (Below w.heap.size w ((w118.setCell ⟨gb822, 0, none⟩ (.int .i64 t819)).setCell ⟨gb822, 1, none⟩ (.int .i64 t820))) := ⟨bw HB⟩
          (try clear BK806)
          (try clear BK807)
          (try clear BK808)
          (try clear BK818)
          (try clear BK822)
          (try clear HB)
          generalize ((w118.setCell ⟨gb822, 0, none⟩ (.int .i64 t819)).setCell ⟨gb822, 1, none⟩ (.int .i64 t820)) = w124 at n0_ n1_ n2_ n3_ n4_ n5_ ⊢
          have BK806 := n0_
          have BK807 := n1_
          have BK808 := n2_
          have BK818 := n3_
          have BK822 := n4_
          have HB := n5_
          clear n0_ n1_ n2_ n3_ n4_ n5_
          have n0_ := Aside0.mk (blk_drew BK806.out)
          have n1_ := Aside0.mk (blk_drew BK807.out)
          have n2_ := Aside0.mk (blk_drew BK808.out)
          have n3_ := Aside0.mk (blk_drew BK818.out)
          have n4_ := Aside0.mk (blk_drew BK822.out)
          have n5_ := Aside0.mk (below_drew1 HB.out)
          clear BK806
          clear BK807
          clear BK808
          clear BK818
          clear BK822
          clear HB
          have BK806 := n0_
          have BK807 := n1_
          have BK808 := n2_
          have BK818 := n3_
          have BK822 := n4_
          have HB := n5_
          clear n0_ n1_ n2_ n3_ n4_ n5_
          refine start_ (n := 19) (S := fun w' => w'.cell? ⟨gb818, 0, none⟩ = some (.int .i64 t815) ∧ w'.cell? ⟨gb818, 1, none⟩ = some (.int .i64 t816) ∧ w'.cell? ⟨gb822, 0, none⟩ = some (.int .i64 t819) ∧ w'.cell? ⟨gb822, 1, none⟩ = some (.int .i64 t820) ∧ w'.cell? ⟨gb806, 0, none⟩ = some (.int .i64 t797) ∧ w'.cell? ⟨gb806, 1, none⟩ = some (.int .i64 t798) ∧ w'.cell? ⟨gb807, 0, none⟩ = some (.int .i64 t800) ∧ w'.cell? ⟨gb807, 1, none⟩ = some (.int .i64 t801)) (ds := []) #[false, false, false, false, false, false, false, false, false, false, false, false, false, false, false, false, false, false, false] (by kernel_rfl) rfl rfl ⟨(blk_cell BK818.out 0).trans rfl, (blk_cell BK818.out 1).trans rfl, (blk_cell BK822.out 0).trans rfl, (blk_cell BK822.out 1).trans rfl, (blk_cell BK806.out 0).trans rfl, (blk_cell BK806.out 1).trans rfl, (blk_cell BK807.out 0).trans rfl, (blk_cell BK807.out 1).trans rfl⟩ (fun hHeld => ?_); refine with_tabW awardingbodylaw01_RatioOrders.tab9 awardingbodylaw01_RatioOrders.bits9 (fun HT_ HW_ => ?_)
          generalize w124.drew = w125 at BK806 BK807 BK808 BK818 BK822 HB hHeld ⊢
          refine pure_ (i := 0) (N := some 65) (v := ?_) (a' := ?_) #[true, false, false, false, false, false, false, false, false, false, false, false, false, false, false, false, false, false, false] rfl rfl (any_of HT_.out (by kernel_rfl)) (fun _ _ _ h => h) (Or.inl ⟨by rfl, ?_⟩) ?_ ?_
          rotate_left
          ·intro w'
           go_simp
           with_reducible rfl
          rotate_left
          ·simp only [Act.put, List.setIfInBounds_toArray, List.set_cons_zero, List.set_cons_succ, i64_w, i32_w]
           rfl
          refine pure_ (i := 1) (N := some 66) (v := ?_) (a' := ?_) #[true, true, false, false, false, false, false, false, false, false, false, false, false, false, false, false, false, false, false] rfl rfl (any_of HT_.out (by kernel_rfl)) (fun _ _ _ h => h) (Or.inl ⟨by rfl, ?_⟩) ?_ ?_
          rotate_left
          ·intro w'
           go_simp
           with_reducible rfl
          rotate_left
          ·simp only [Act.put, List.setIfInBounds_toArray, List.set_cons_zero, List.set_cons_succ, i64_w, i32_w]
           rfl
          refine pure_ (i := 2) (N := some 67) (v := ?_) (a' := ?_) #[true, true, true, false, false, false, false, false, false, false, false, false, false, false, false, false, false, false, false] rfl rfl (any_of HT_.out (by kernel_rfl)) (fun _ _ _ h => h) (Or.inl ⟨by rfl, ?_⟩) ?_ ?_
          rotate_left
          ·intro w'
           go_simp
           with_reducible rfl
          rotate_left
          ·simp only [Act.put, List.setIfInBounds_toArray, List.set_cons_zero, List.set_cons_succ, i64_w, i32_w]
           rfl
          refine pure_ (i := 3) (N := some 68) (v := ?_) (a' := ?_) #[true, true, true, true, false, false, false, false, false, false, false, false, false, false, false, false, false, false, false] rfl rfl (any_of HT_.out (by kernel_rfl)) (fun _ _ _ h => h) (Or.inl ⟨by rfl, ?_⟩) ?_ ?_
          rotate_left
          ·intro w'
           go_simp
           with_reducible rfl
          rotate_left
          ·simp only [Act.put, List.setIfInBounds_toArray, List.set_cons_zero, List.set_cons_succ, i64_w, i32_w]
           rfl
          refine pure_ (i := 4) (N := some 69) (v := ?_) (a' := ?_) #[true, true, true, true, true, false, false, false, false, false, false, false, false, false, false, false, false, false, false] rfl rfl (any_of HT_.out (by kernel_rfl)) (fun _ _ _ h => h) (Or.inl ⟨by rfl, ?_⟩) ?_ ?_
          rotate_left
          ·intro w'
           go_simp
           with_reducible rfl
          rotate_left
          ·simp only [Act.put, List.setIfInBounds_toArray, List.set_cons_zero, List.set_cons_succ, i64_w, i32_w]
           rfl
          refine pure_ (i := 5) (N := some 70) (v := ?_) (a' := ?_) #[true, true, true, true, true, true, false, false, false, false, false, false, false, false, false, false, false, false, false] rfl rfl (any_of HT_.out (by kernel_rfl)) (fun _ _ _ h => h) (Or.inl ⟨by rfl, ?_⟩) ?_ ?_
          rotate_left
          ·intro w'
           go_simp
           with_reducible rfl
          rotate_left
          ·simp only [Act.put, List.setIfInBounds_toArray, List.set_cons_zero, List.set_cons_succ, i64_w, i32_w]
           rfl
          refine pure_ (i := 6) (N := some 71) (v := ?_) (a' := ?_) #[true, true, true, true, true, true, true, false, false, false, false, false, false, false, false, false, false, false, false] rfl rfl (any_of HT_.out (by kernel_rfl)) (fun _ _ _ h => h) (Or.inl ⟨by rfl, ?_⟩) ?_ ?_
          rotate_left
          ·intro w'
           go_simp
           with_reducible rfl
          rotate_left
          ·simp only [Act.put, List.setIfInBounds_toArray, List.set_cons_zero, List.set_cons_succ, i64_w, i32_w]
           rfl
          refine take_ (i := 7) (N := some 72) (v := ?_) (a' := ?_) #[true, true, true, true, true, true, true, true, false, false, false, false, false, false, false, false, false, false, false] rfl rfl (take_ofW HT_.out HW_.out (by kernel_rfl)) (fun _ _ _ h => h) (Or.inl ⟨by rfl, ?_⟩) hHeld ?_ ?_
          rotate_left
          ·rintro w' ⟨s0, s1, s2, s3, s4, s5, s6, s7⟩
           go_simp
           with_reducible rfl
          rotate_left
          ·simp only [Act.put, List.setIfInBounds_toArray, List.set_cons_zero, List.set_cons_succ, i64_w, i32_w]
           rfl
          refine take_ (i := 8) (N := some 73) (v := ?_) (a' := ?_) #[true, true, true, true, true, true, true, true, true, false, false, false, false, false, false, false, false, false, false] rfl rfl (take_ofW HT_.out HW_.out (by kernel_rfl)) (fun _ _ _ h => h) (Or.inl ⟨by rfl, ?_⟩) hHeld ?_ ?_
          rotate_left
          ·rintro w' ⟨s0, s1, s2, s3, s4, s5, s6, s7⟩
           go_simp
           with_reducible rfl
          rotate_left
          ·simp only [Act.put, List.setIfInBounds_toArray, List.set_cons_zero, List.set_cons_succ, i64_w, i32_w]
           rfl
          refine take_ (i := 10) (N := some 75) (v := ?_) (a' := ?_) #[true, true, true, true, true, true, true, true, true, false, true, false, false, false, false, false, false, false, false] rfl rfl (take_ofW HT_.out HW_.out (by kernel_rfl)) (fun _ _ _ h => h) (Or.inl ⟨by rfl, ?_⟩) hHeld ?_ ?_
          rotate_left
          ·rintro w' ⟨s0, s1, s2, s3, s4, s5, s6, s7⟩
           go_simp
           with_reducible rfl
          rotate_left
          ·simp only [Act.put, List.setIfInBounds_toArray, List.set_cons_zero, List.set_cons_succ, i64_w, i32_w]
           rfl
          refine take_ (i := 11) (N := some 76) (v := ?_) (a' := ?_) #[true, true, true, true, true, true, true, true, true, false, true, true, false, false, false, false, false, false, false] rfl rfl (take_ofW HT_.out HW_.out (by kernel_rfl)) (fun _ _ _ h => h) (Or.inl ⟨by rfl, ?_⟩) hHeld ?_ ?_
          rotate_left
          ·rintro w' ⟨s0, s1, s2, s3, s4, s5, s6, s7⟩
           go_simp
           with_reducible rfl
          rotate_left
          ·simp only [Act.put, List.setIfInBounds_toArray, List.set_cons_zero, List.set_cons_succ, i64_w, i32_w]
           rfl
          refine one_ (i := 9) (N := some 74) #[true, true, true, true, true, true, true, true, true, true, true, true, false, false, false, false, false, false, false] rfl rfl (one_of HT_.out (by kernel_rfl)) (by decide) (fun K hK => ?_)
          refine goes_ Try.func31 (by kernel_rfl) rfl #[.agg #[.int .i64 t815, .int .i64 t816], .agg #[.int .i64 t819, .int .i64 t820]] (by rfl) rfl rfl (by (try simp only [List.map_toArray, List.map_cons, List.map_nil]); first | done | rfl | (simp only [List.length_drop, List.length_take]; rfl)) ?_
          with_reducible refine (ratio_Compare.calls kj36 t815 t816 t819 t820 t823 _ A75.out).mono ?_
          rintro e w126 ⟨rfl, hb⟩
          refine ⟨_, rfl, ?_⟩
          have n0_ := kb BK806 hb
          have n1_ := kb BK807 hb
          have n2_ := kb BK808 hb
          have n3_ := kb BK818 hb
          have n4_ := kb BK822 hb
          have n5_ := wb HB hb
          clear BK806
          clear BK807
          clear BK808
          clear BK818
          clear BK822
          clear HB
          have BK806 := n0_
          have BK807 := n1_
          have BK808 := n2_
          have BK818 := n3_
          have BK822 := n4_
          have HB := n5_
          clear n0_ n1_ n2_ n3_ n4_ n5_
          (try clear hb)
          (try clear hb2)
          (try clear hk)
          (try clear hi)
          refine hK.out _ _ ⟨(blk_cell BK818.out 0).trans rfl, (blk_cell BK818.out 1).trans rfl, (blk_cell BK822.out 0).trans rfl, (blk_cell BK822.out 1).trans rfl, (blk_cell BK806.out 0).trans rfl, (blk_cell BK806.out 1).trans rfl, (blk_cell BK807.out 0).trans rfl, (blk_cell BK807.out 1).trans rfl⟩ (fun hHeld => ?_)
          clear hK K
          refine norm_ (a' := ?_) ?_ ?_
          rotate_left
          ·show Act.put _ (some 74) _ = _
           simp only [Act.put, List.setIfInBounds_toArray, List.set_cons_zero, List.set_cons_succ, i64_w, i32_w]
           rfl
          refine one_ (i := 12) (N := some 77) #[true, true, true, true, true, true, true, true, true, true, true, true, true, false, false, false, false, false, false] rfl rfl (one_of HT_.out (by kernel_rfl)) (by decide) (fun K hK => ?_)
          refine goes_ Try.func31 (by kernel_rfl) rfl #[.agg #[.int .i64 t797, .int .i64 t798], .agg #[.int .i64 t800, .int .i64 t801]] (by rfl) rfl rfl (by (try simp only [List.map_toArray, List.map_cons, List.map_nil]); first | done | rfl | (simp only [List.length_drop, List.length_take]; rfl)) ?_
          with_reducible refine (ratio_Compare.calls kj36 t797 t798 t800 t801 t824 _ A76.out).mono ?_
          rintro e w127 ⟨rfl, hb⟩
          refine ⟨_, rfl, ?_⟩
          have n0_ := kb BK806 hb
          have n1_ := kb BK807 hb
          have n2_ := kb BK808 hb
          have n3_ := kb BK818 hb
          have n4_ := kb BK822 hb
          have n5_ := wb HB hb
          clear BK806
          clear BK807
          clear BK808
          clear BK818
          clear BK822
          clear HB
          have BK806 := n0_
          have BK807 := n1_
          have BK808 := n2_
          have BK818 := n3_
          have BK822 := n4_
          have HB := n5_
          clear n0_ n1_ n2_ n3_ n4_ n5_
          (try clear hb)
          (try clear hb2)
          (try clear hk)
          (try clear hi)
          refine hK.out _ _ ⟨(blk_cell BK818.out 0).trans rfl, (blk_cell BK818.out 1).trans rfl, (blk_cell BK822.out 0).trans rfl, (blk_cell BK822.out 1).trans rfl, (blk_cell BK806.out 0).trans rfl, (blk_cell BK806.out 1).trans rfl, (blk_cell BK807.out 0).trans rfl, (blk_cell BK807.out 1).trans rfl⟩ (fun hHeld => ?_)
          clear hK K
          refine norm_ (a' := ?_) ?_ ?_
          rotate_left
          ·show Act.put _ (some 77) _ = _
           simp only [Act.put, List.setIfInBounds_toArray, List.set_cons_zero, List.set_cons_succ, i64_w, i32_w]
           rfl
          refine pure_ (i := 13) (N := some 78) (v := ?_) (a' := ?_) #[true, true, true, true, true, true, true, true, true, true, true, true, true, true, false, false, false, false, false] rfl rfl (any_of HT_.out (by kernel_rfl)) (fun _ _ _ h => h) (Or.inl ⟨by rfl, ?_⟩) ?_ ?_
          rotate_left
          ·intro w'
           go_simp
           with_reducible rfl
          rotate_left
          ·simp only [Act.put, List.setIfInBounds_toArray, List.set_cons_zero, List.set_cons_succ, i64_w, i32_w]
           rfl
          refine pure_ (i := 14) (N := some 79) (v := ?_) (a' := ?_) #[true, true, true, true, true, true, true, true, true, true, true, true, true, true, true, false, false, false, false] rfl rfl (any_of HT_.out (by kernel_rfl)) (fun _ _ _ h => h) (Or.inl ⟨by rfl, ?_⟩) ?_ ?_
          rotate_left
          ·intro w'
           go_simp
           with_reducible rfl
          rotate_left
          ·simp only [Act.put, List.setIfInBounds_toArray, List.set_cons_zero, List.set_cons_succ, i64_w, i32_w]
           rfl
          refine pure_ (i := 15) (N := some 80) (v := ?_) (a' := ?_) #[true, true, true, true, true, true, true, true, true, true, true, true, true, true, true, true, false, false, false] rfl rfl (any_of HT_.out (by kernel_rfl)) (fun _ _ _ h => h) (Or.inl ⟨by rfl, ?_⟩) ?_ ?_
          rotate_left
          ·intro w'
           go_simp
           with_reducible rfl
          rotate_left
          ·simp only [Act.put, List.setIfInBounds_toArray, List.set_cons_zero, List.set_cons_succ, i64_w, i32_w]
           rfl
          refine pure_ (i := 16) (N := some 81) (v := undef) (a' := ?_) #[true, true, true, true, true, true, true, true, true, true, true, true, true, true, true, true, true, false, false] rfl rfl (any_of HT_.out (by kernel_rfl)) (fun _ _ _ h => h) (Or.inr ⟨by rfl, rfl⟩) ?_ ?_
          rotate_left
          ·simp only [Act.put, List.setIfInBounds_toArray, List.set_cons_zero, List.set_cons_succ, i64_w, i32_w]
           rfl
          refine pure_ (i := 17) (N := some 82) (v := ?_) (a' := ?_) #[true, true, true, true, true, true, true, true, true, true, true, true, true, true, true, true, true, true, false] rfl rfl (any_of HT_.out (by kernel_rfl)) (fun _ _ _ h => h) (Or.inl ⟨by rfl, ?_⟩) ?_ ?_
          rotate_left
          ·intro w'
           go_simp
           with_reducible rfl
          rotate_left
          ·simp only [Act.put, List.setIfInBounds_toArray, List.set_cons_zero, List.set_cons_succ, i64_w, i32_w]
           rfl
          refine pure_ (i := 18) (N := some 2) (v := ?_) (a' := ?_) #[true, true, true, true, true, true, true, true, true, true, true, true, true, true, true, true, true, true, true] rfl rfl (any_of HT_.out (by kernel_rfl)) (fun _ _ _ h => h) (Or.inl ⟨by rfl, ?_⟩) ?_ ?_
          rotate_left
          ·intro w'
           go_simp
           with_reducible rfl
          rotate_left
          ·simp only [Act.put, List.setIfInBounds_toArray, List.set_cons_zero, List.set_cons_succ, i64_w, i32_w]
           rfl
          refine done_ (done_of HT_.out (by kernel_rfl)) ?_
          try go_wp2
          go_ret
          exact ⟨by first | rfl | (simp [errW_none, errW_some] <;> rfl) | (simp [*, errW_none, errW_some] <;> rfl), bw HB⟩
        ·rw [if_neg c74] at H
         have c74b0 : (t821 == 0) = false := beq_eq_false_iff_ne.mpr c74
         have c74b1 : (t821 != 0) = true := bne_iff_ne.mpr c74
         replace H := Option.bind_eq_some_iff.mp H
         obtain ⟨t826, A1280, H⟩ := H
         replace H : (some t826) = some r := H
         have A128 := Aside0.mk A1280
         clear A1280
         obtain rfl := Option.some.inj H
         obtain ⟨hnb129, hnc129⟩ := n2 NB806_807
         obtain ⟨hnb130, hnc130⟩ := n2 NB806_808
         have hcz131_0 : wc.cell? ⟨gb806, 0, none⟩ = some (.int .i64 t797) := (blk_cell BK806.out 0).trans rfl
         have hcz131_1 : wc.cell? ⟨gb806, 1, none⟩ = some (.int .i64 t798) := (blk_cell BK806.out 1).trans rfl
         have hfz131_0 := blk_frozen BK806.out 0
         have hfz131_1 := blk_frozen BK806.out 1
         obtain ⟨hnb132, hnc132⟩ := n2 NB808_807
         have hcz133_0 : wc.cell? ⟨gb808, 0, none⟩ = some (.int .i64 t803) := (blk_cell BK808.out 0).trans rfl
         have hcz133_1 : wc.cell? ⟨gb808, 1, none⟩ = some (.int .i64 t804) := (blk_cell BK808.out 1).trans rfl
         have hfz133_0 := blk_frozen BK808.out 0
         have hfz133_1 := blk_frozen BK808.out 1
         try go_wp2_with (first | ((with_reducible refine gate_callee (f := 39) rfl ?_); refine goesL_ (some 56) rfl rfl Try.func39 (by kernel_rfl) rfl #[.agg #[.int .i64 t797, .int .i64 t798], .agg #[.int .i64 t803, .int .i64 t804]] rfl (by (try simp only [List.map_toArray, List.map_cons, List.map_nil]); first | done | rfl | (simp only [List.length_drop, List.length_take]; rfl)) ?_; (with_reducible refine (ratio_Add.calls kj36 t797 t798 t803 t804 t815 t816 t817 _ A71.out).mono ?_); rintro e w134 ⟨rfl, hb⟩; refine ⟨_, rfl, ?_⟩; replace BK806 := kb BK806 hb; replace BK807 := kb BK807 hb; replace BK808 := kb BK808 hb; replace HB := wb HB hb; (try clear hb); (try clear hb2); (try clear hk); (try clear hi)) | ((with_reducible refine gate_dst (N := 7) rfl ?_); refine box_event ?hg (N := 7) ?hd (cs := #[.int .i64 0, .int .i64 0]) (t := 35) ?hr ?_; (case hd => rfl); (case hg => rfl); (case hr => first | (go_simp; done) | (go_simp; rfl)); intro gb818 hg w135 hbox hb; have BK818 := Aside0.mk (hbox); have GW818 := gs HB hg; have GE818 := gs HB hg; have NB806_818 := nl BK806 hg; have NB818_806 := nr BK806 hg; have NB807_818 := nl BK807 hg; have NB818_807 := nr BK807 hg; have NB808_818 := nl BK808 hg; have NB818_808 := nr BK808 hg; replace BK806 := kb BK806 hb; replace BK807 := kb BK807 hb; replace BK808 := kb BK808 hb; replace HB := wb HB hb; clear hb hbox hg; obtain ⟨hnb136, hnc136⟩ := n2 NB818_806; obtain ⟨hnb137, hnc137⟩ := n2 NB818_807; obtain ⟨hnb138, hnc138⟩ := n2 NB818_808; have hcz139_0 : w135.cell? ⟨gb818, 0, none⟩ = some (.int .i64 0) := (blk_cell BK818.out 0).trans rfl; have hcz139_1 : w135.cell? ⟨gb818, 1, none⟩ = some (.int .i64 0) := (blk_cell BK818.out 1).trans rfl; have hfz139_0 := blk_frozen BK818.out 0; have hfz139_1 := blk_frozen BK818.out 1; have hcz140_0 : w135.cell? ⟨gb807, 0, none⟩ = some (.int .i64 t800) := (blk_cell BK807.out 0).trans rfl; have hcz140_1 : w135.cell? ⟨gb807, 1, none⟩ = some (.int .i64 t801) := (blk_cell BK807.out 1).trans rfl; have hfz140_0 := blk_frozen BK807.out 0; have hfz140_1 := blk_frozen BK807.out 1; have hcz141_0 : w135.cell? ⟨gb808, 0, none⟩ = some (.int .i64 t803) := (blk_cell BK808.out 0).trans rfl; have hcz141_1 : w135.cell? ⟨gb808, 1, none⟩ = some (.int .i64 t804) := (blk_cell BK808.out 1).trans rfl; have hfz141_0 := blk_frozen BK808.out 0; have hfz141_1 := blk_frozen BK808.out 1) | ((with_reducible refine gate_callee (f := 39) rfl ?_); refine goesL_ (some 62) rfl rfl Try.func39 (by kernel_rfl) rfl #[.agg #[.int .i64 t800, .int .i64 t801], .agg #[.int .i64 t803, .int .i64 t804]] rfl (by (try simp only [List.map_toArray, List.map_cons, List.map_nil]); first | done | rfl | (simp only [List.length_drop, List.length_take]; rfl)) ?_; (with_reducible refine (ratio_Add.calls kj36 t800 t801 t803 t804 t819 t820 t821 _ A72.out).mono ?_); rintro e w142 ⟨rfl, hb⟩; refine ⟨_, rfl, ?_⟩; replace BK806 := kb BK806 hb; replace BK807 := kb BK807 hb; replace BK808 := kb BK808 hb; replace BK818 := Aside0.mk (blk_below (g := gb818) (o := .cells #[.int .i64 t815, .int .i64 t816] 35 (0, 0)) (by refine pe ?_; refine blk_put (cs := #[.int .i64 t815, .int .i64 0]) ?_ 1 _ rfl; refine pe ?_; refine blk_put (cs := #[.int .i64 0, .int .i64 0]) ?_ 0 _ rfl; refine pe ?_; exact BK818.out) hb); replace HB := wb HB hb; (try clear hb); (try clear hb2); (try clear hk); (try clear hi)) | ((with_reducible refine gate_dst (N := 9) rfl ?_); refine box_event ?hg (N := 9) ?hd (cs := #[.int .i64 0, .int .i64 0]) (t := 35) ?hr ?_; (case hd => rfl); (case hg => rfl); (case hr => first | (go_simp; done) | (go_simp; rfl)); intro gb822 hg w143 hbox hb; have BK822 := Aside0.mk (hbox); have GW822 := gs HB hg; have GE822 := gs HB hg; have NB806_822 := nl BK806 hg; have NB822_806 := nr BK806 hg; have NB807_822 := nl BK807 hg; have NB822_807 := nr BK807 hg; have NB808_822 := nl BK808 hg; have NB822_808 := nr BK808 hg; have NB818_822 := nl BK818 hg; have NB822_818 := nr BK818 hg; replace BK806 := kb BK806 hb; replace BK807 := kb BK807 hb; replace BK808 := kb BK808 hb; replace BK818 := kb BK818 hb; replace HB := wb HB hb; clear hb hbox hg; obtain ⟨hnb144, hnc144⟩ := n2 NB822_806; obtain ⟨hnb145, hnc145⟩ := n2 NB822_807; obtain ⟨hnb146, hnc146⟩ := n2 NB822_808; obtain ⟨hnb147, hnc147⟩ := n2 NB822_818; have hcz148_0 : w143.cell? ⟨gb822, 0, none⟩ = some (.int .i64 0) := (blk_cell BK822.out 0).trans rfl; have hcz148_1 : w143.cell? ⟨gb822, 1, none⟩ = some (.int .i64 0) := (blk_cell BK822.out 1).trans rfl; have hfz148_0 := blk_frozen BK822.out 0; have hfz148_1 := blk_frozen BK822.out 1))
         have n0_ : Aside0 (((w143.setCell ⟨gb822, 0, none⟩ (.int .i64 t819)).setCell ⟨gb822, 1, none⟩ (.int .i64 t820)).heap[gb806]? = some (.cells #[.int .i64 t797, .int .i64 t798] 35 (0, 0))) := ⟨bq BK806⟩
         have n1_ : Aside0 (((w143.setCell ⟨gb822, 0, none⟩ (.int .i64 t819)).setCell ⟨gb822, 1, none⟩ (.int .i64 t820)).heap[gb807]? = some (.cells #[.int .i64 t800, .int .i64 t801] 35 (0, 0))) := ⟨bq BK807⟩
         have n2_ : Aside0 (((w143.setCell ⟨gb822, 0, none⟩ (.int .i64 t819)).setCell ⟨gb822, 1, none⟩ (.int .i64 t820)).heap[gb808]? = some (.cells #[.int .i64 t803, .int .i64 t804] 35 (0, 0))) := ⟨bq BK808⟩
         have n3_ : Aside0 (((w143.setCell ⟨gb822, 0, none⟩ (.int .i64 t819)).setCell ⟨gb822, 1, none⟩ (.int .i64 t820)).heap[gb818]? = some (.cells #[.int .i64 t815, .int .i64 t816] 35 (0, 0))) := ⟨bq BK818⟩
         have n4_ : Aside0 (((w143.setCell ⟨gb822, 0, none⟩ (.int .i64 t819)).setCell ⟨gb822, 1, none⟩ (.int .i64 t820)).heap[gb822]? = some (.cells #[.int .i64 t819, .int .i64 t820] 35 (0, 0))) := ⟨by refine pe ?_; refine blk_put (cs := #[.int .i64 t819, .int .i64 0]) ?_ 1 _ rfl; refine pe ?_; refine blk_put (cs := #[.int .i64 0, .int .i64 0]) ?_ 0 _ rfl; refine pe ?_; exact BK822.out⟩
         have n5_ : Aside0 (Below w.heap.size w ((w143.setCell ⟨gb822, 0, none⟩ (.int .i64 t819)).setCell ⟨gb822, 1, none⟩ (.int .i64 t820))) := ⟨bw HB⟩
         (try clear BK806)
         (try clear BK807)
         (try clear BK808)
         (try clear BK818)
         (try clear BK822)
         (try clear HB)
         generalize ((w143.setCell ⟨gb822, 0, none⟩ (.int .i64 t819)).setCell ⟨gb822, 1, none⟩ (.int .i64 t820)) = w149 at n0_ n1_ n2_ n3_ n4_ n5_ ⊢
         have BK806 := n0_
         have BK807 := n1_
         have BK808 := n2_
         have BK818 := n3_
         have BK822 := n4_
         have HB := n5_
         clear n0_ n1_ n2_ n3_ n4_ n5_
         have n0_ := Aside0.mk (blk_drew BK806.out)
         have n1_ := Aside0.mk (blk_drew BK807.out)
         have n2_ := Aside0.mk (blk_drew BK808.out)
         have n3_ := Aside0.mk (blk_drew BK818.out)
         have n4_ := Aside0.mk (blk_drew BK822.out)
         have n5_ := Aside0.mk (below_drew1 HB.out)
         clear BK806
         clear BK807
         clear BK808
         clear BK818
         clear BK822
         clear HB
         have BK806 := n0_
         have BK807 := n1_
         have BK808 := n2_
         have BK818 := n3_
         have BK822 := n4_
         have HB := n5_
         clear n0_ n1_ n2_ n3_ n4_ n5_
         refine start_ (n := 19) (S := fun w' => True) (ds := []) #[false, false, false, false, false, false, false, false, false, false, false, false, false, false, false, false, false, false, false] (by kernel_rfl) rfl rfl trivial (fun hHeld => ?_); refine with_tabW awardingbodylaw01_RatioOrders.tab9 awardingbodylaw01_RatioOrders.bits9 (fun HT_ HW_ => ?_)
         generalize w149.drew = w150 at BK806 BK807 BK808 BK818 BK822 HB hHeld ⊢
         refine pure_ (i := 0) (N := some 65) (v := ?_) (a' := ?_) #[true, false, false, false, false, false, false, false, false, false, false, false, false, false, false, false, false, false, false] rfl rfl (any_of HT_.out (by kernel_rfl)) (fun _ _ _ h => h) (Or.inl ⟨by rfl, ?_⟩) ?_ ?_
         rotate_left
         ·intro w'
          go_simp
          with_reducible rfl
         rotate_left
         ·simp only [Act.put, List.setIfInBounds_toArray, List.set_cons_zero, List.set_cons_succ, i64_w, i32_w]
          rfl
         refine pure_ (i := 1) (N := some 66) (v := ?_) (a' := ?_) #[true, true, false, false, false, false, false, false, false, false, false, false, false, false, false, false, false, false, false] rfl rfl (any_of HT_.out (by kernel_rfl)) (fun _ _ _ h => h) (Or.inl ⟨by rfl, ?_⟩) ?_ ?_
         rotate_left
         ·intro w'
          go_simp
          with_reducible rfl
         rotate_left
         ·simp only [Act.put, List.setIfInBounds_toArray, List.set_cons_zero, List.set_cons_succ, i64_w, i32_w]
          rfl
         refine pure_ (i := 2) (N := some 67) (v := ?_) (a' := ?_) #[true, true, true, false, false, false, false, false, false, false, false, false, false, false, false, false, false, false, false] rfl rfl (any_of HT_.out (by kernel_rfl)) (fun _ _ _ h => h) (Or.inl ⟨by rfl, ?_⟩) ?_ ?_
         rotate_left
         ·intro w'
          go_simp
          with_reducible rfl
         rotate_left
         ·simp only [Act.put, List.setIfInBounds_toArray, List.set_cons_zero, List.set_cons_succ, i64_w, i32_w]
          rfl
         refine pure_ (i := 3) (N := some 68) (v := ?_) (a' := ?_) #[true, true, true, true, false, false, false, false, false, false, false, false, false, false, false, false, false, false, false] rfl rfl (any_of HT_.out (by kernel_rfl)) (fun _ _ _ h => h) (Or.inl ⟨by rfl, ?_⟩) ?_ ?_
         rotate_left
         ·intro w'
          go_simp
          with_reducible rfl
         rotate_left
         ·simp only [Act.put, List.setIfInBounds_toArray, List.set_cons_zero, List.set_cons_succ, i64_w, i32_w]
          rfl
         refine pure_ (i := 4) (N := some 69) (v := ?_) (a' := ?_) #[true, true, true, true, true, false, false, false, false, false, false, false, false, false, false, false, false, false, false] rfl rfl (any_of HT_.out (by kernel_rfl)) (fun _ _ _ h => h) (Or.inl ⟨by rfl, ?_⟩) ?_ ?_
         rotate_left
         ·intro w'
          go_simp
          with_reducible rfl
         rotate_left
         ·simp only [Act.put, List.setIfInBounds_toArray, List.set_cons_zero, List.set_cons_succ, i64_w, i32_w]
          rfl
         refine pure_ (i := 5) (N := some 70) (v := ?_) (a' := ?_) #[true, true, true, true, true, true, false, false, false, false, false, false, false, false, false, false, false, false, false] rfl rfl (any_of HT_.out (by kernel_rfl)) (fun _ _ _ h => h) (Or.inl ⟨by rfl, ?_⟩) ?_ ?_
         rotate_left
         ·intro w'
          go_simp
          with_reducible rfl
         rotate_left
         ·simp only [Act.put, List.setIfInBounds_toArray, List.set_cons_zero, List.set_cons_succ, i64_w, i32_w]
          rfl
         refine pure_ (i := 6) (N := some 71) (v := ?_) (a' := ?_) #[true, true, true, true, true, true, true, false, false, false, false, false, false, false, false, false, false, false, false] rfl rfl (any_of HT_.out (by kernel_rfl)) (fun _ _ _ h => h) (Or.inl ⟨by rfl, ?_⟩) ?_ ?_
         rotate_left
         ·intro w'
          go_simp
          with_reducible rfl
         rotate_left
         ·simp only [Act.put, List.setIfInBounds_toArray, List.set_cons_zero, List.set_cons_succ, i64_w, i32_w]
          rfl
         refine pure_ (i := 7) (N := some 72) (v := undef) (a' := ?_) #[true, true, true, true, true, true, true, true, false, false, false, false, false, false, false, false, false, false, false] rfl rfl (any_of HT_.out (by kernel_rfl)) (fun _ _ _ h => h) (Or.inr ⟨by rfl, rfl⟩) ?_ ?_
         rotate_left
         ·simp only [Act.put, List.setIfInBounds_toArray, List.set_cons_zero, List.set_cons_succ, i64_w, i32_w]
          rfl
         refine pure_ (i := 8) (N := some 73) (v := undef) (a' := ?_) #[true, true, true, true, true, true, true, true, true, false, false, false, false, false, false, false, false, false, false] rfl rfl (any_of HT_.out (by kernel_rfl)) (fun _ _ _ h => h) (Or.inr ⟨by rfl, rfl⟩) ?_ ?_
         rotate_left
         ·simp only [Act.put, List.setIfInBounds_toArray, List.set_cons_zero, List.set_cons_succ, i64_w, i32_w]
          rfl
         refine pure_ (i := 9) (N := some 74) (v := undef) (a' := ?_) #[true, true, true, true, true, true, true, true, true, true, false, false, false, false, false, false, false, false, false] rfl rfl (any_of HT_.out (by kernel_rfl)) (fun _ _ _ h => h) (Or.inr ⟨by rfl, rfl⟩) ?_ ?_
         rotate_left
         ·simp only [Act.put, List.setIfInBounds_toArray, List.set_cons_zero, List.set_cons_succ, i64_w, i32_w]
          rfl
         refine pure_ (i := 10) (N := some 75) (v := undef) (a' := ?_) #[true, true, true, true, true, true, true, true, true, true, true, false, false, false, false, false, false, false, false] rfl rfl (any_of HT_.out (by kernel_rfl)) (fun _ _ _ h => h) (Or.inr ⟨by rfl, rfl⟩) ?_ ?_
         rotate_left
         ·simp only [Act.put, List.setIfInBounds_toArray, List.set_cons_zero, List.set_cons_succ, i64_w, i32_w]
          rfl
         refine pure_ (i := 11) (N := some 76) (v := undef) (a' := ?_) #[true, true, true, true, true, true, true, true, true, true, true, true, false, false, false, false, false, false, false] rfl rfl (any_of HT_.out (by kernel_rfl)) (fun _ _ _ h => h) (Or.inr ⟨by rfl, rfl⟩) ?_ ?_
         rotate_left
         ·simp only [Act.put, List.setIfInBounds_toArray, List.set_cons_zero, List.set_cons_succ, i64_w, i32_w]
          rfl
         refine pure_ (i := 12) (N := some 77) (v := undef) (a' := ?_) #[true, true, true, true, true, true, true, true, true, true, true, true, true, false, false, false, false, false, false] rfl rfl (any_of HT_.out (by kernel_rfl)) (fun _ _ _ h => h) (Or.inr ⟨by rfl, rfl⟩) ?_ ?_
         rotate_left
         ·simp only [Act.put, List.setIfInBounds_toArray, List.set_cons_zero, List.set_cons_succ, i64_w, i32_w]
          rfl
         refine pure_ (i := 13) (N := some 78) (v := undef) (a' := ?_) #[true, true, true, true, true, true, true, true, true, true, true, true, true, true, false, false, false, false, false] rfl rfl (any_of HT_.out (by kernel_rfl)) (fun _ _ _ h => h) (Or.inr ⟨by rfl, rfl⟩) ?_ ?_
         rotate_left
         ·simp only [Act.put, List.setIfInBounds_toArray, List.set_cons_zero, List.set_cons_succ, i64_w, i32_w]
          rfl
         refine pure_ (i := 14) (N := some 79) (v := ?_) (a' := ?_) #[true, true, true, true, true, true, true, true, true, true, true, true, true, true, true, false, false, false, false] rfl rfl (any_of HT_.out (by kernel_rfl)) (fun _ _ _ h => h) (Or.inl ⟨by rfl, ?_⟩) ?_ ?_
         rotate_left
         ·intro w'
          go_simp
          with_reducible rfl
         rotate_left
         ·simp only [Act.put, List.setIfInBounds_toArray, List.set_cons_zero, List.set_cons_succ, i64_w, i32_w]
          rfl
         refine pure_ (i := 15) (N := some 80) (v := ?_) (a' := ?_) #[true, true, true, true, true, true, true, true, true, true, true, true, true, true, true, true, false, false, false] rfl rfl (any_of HT_.out (by kernel_rfl)) (fun _ _ _ h => h) (Or.inl ⟨by rfl, ?_⟩) ?_ ?_
         rotate_left
         ·intro w'
          go_simp
          with_reducible rfl
         rotate_left
         ·simp only [Act.put, List.setIfInBounds_toArray, List.set_cons_zero, List.set_cons_succ, i64_w, i32_w]
          rfl
         refine one_ (i := 16) (N := some 81) #[true, true, true, true, true, true, true, true, true, true, true, true, true, true, true, true, true, false, false] rfl rfl (one_of HT_.out (by kernel_rfl)) (by decide) (fun K hK => ?_)
         refine goes_ Try.func18 (by kernel_rfl) rfl #[] (by rfl) rfl rfl (by (try simp only [List.map_toArray, List.map_cons, List.map_nil]); first | done | rfl | (simp only [List.length_drop, List.length_take]; rfl)) ?_
         with_reducible refine (awardingbodylaw01_awake.calls kj36  t826 _ A128.out).mono ?_
         rintro e w151 ⟨rfl, hb⟩
         refine ⟨_, rfl, ?_⟩
         have n0_ := kb BK806 hb
         have n1_ := kb BK807 hb
         have n2_ := kb BK808 hb
         have n3_ := kb BK818 hb
         have n4_ := kb BK822 hb
         have n5_ := wb HB hb
         clear BK806
         clear BK807
         clear BK808
         clear BK818
         clear BK822
         clear HB
         have BK806 := n0_
         have BK807 := n1_
         have BK808 := n2_
         have BK818 := n3_
         have BK822 := n4_
         have HB := n5_
         clear n0_ n1_ n2_ n3_ n4_ n5_
         (try clear hb)
         (try clear hb2)
         (try clear hk)
         (try clear hi)
         refine hK.out _ _ trivial (fun hHeld => ?_)
         clear hK K
         refine norm_ (a' := ?_) ?_ ?_
         rotate_left
         ·show Act.put _ (some 81) _ = _
          simp only [Act.put, List.setIfInBounds_toArray, List.set_cons_zero, List.set_cons_succ, i64_w, i32_w]
          rfl
         refine pure_ (i := 17) (N := some 82) (v := ?_) (a' := ?_) #[true, true, true, true, true, true, true, true, true, true, true, true, true, true, true, true, true, true, false] rfl rfl (any_of HT_.out (by kernel_rfl)) (fun _ _ _ h => h) (Or.inl ⟨by rfl, ?_⟩) ?_ ?_
         rotate_left
         ·intro w'
          go_simp
          with_reducible rfl
         rotate_left
         ·simp only [Act.put, List.setIfInBounds_toArray, List.set_cons_zero, List.set_cons_succ, i64_w, i32_w]
          rfl
         refine pure_ (i := 18) (N := some 2) (v := ?_) (a' := ?_) #[true, true, true, true, true, true, true, true, true, true, true, true, true, true, true, true, true, true, true] rfl rfl (any_of HT_.out (by kernel_rfl)) (fun _ _ _ h => h) (Or.inl ⟨by rfl, ?_⟩) ?_ ?_
         rotate_left
         ·intro w'
          go_simp
          with_reducible rfl
         rotate_left
         ·simp only [Act.put, List.setIfInBounds_toArray, List.set_cons_zero, List.set_cons_succ, i64_w, i32_w]
          rfl
         refine done_ (done_of HT_.out (by kernel_rfl)) ?_
         try go_wp2
         go_ret
         exact ⟨by first | rfl | (simp [errW_none, errW_some] <;> rfl) | (simp [*, errW_none, errW_some] <;> rfl), bw HB⟩
       ·rw [if_neg c73] at H
        have c73b0 : (t817 == 0) = false := beq_eq_false_iff_ne.mpr c73
        have c73b1 : (t817 != 0) = true := bne_iff_ne.mpr c73
        replace H := Option.bind_eq_some_iff.mp H
        obtain ⟨t827, A1520, H⟩ := H
        replace H : (some t827) = some r := H
        have A152 := Aside0.mk A1520
        clear A1520
        obtain rfl := Option.some.inj H
        obtain ⟨hnb153, hnc153⟩ := n2 NB806_807
        obtain ⟨hnb154, hnc154⟩ := n2 NB806_808
        have hcz155_0 : wc.cell? ⟨gb806, 0, none⟩ = some (.int .i64 t797) := (blk_cell BK806.out 0).trans rfl
        have hcz155_1 : wc.cell? ⟨gb806, 1, none⟩ = some (.int .i64 t798) := (blk_cell BK806.out 1).trans rfl
        have hfz155_0 := blk_frozen BK806.out 0
        have hfz155_1 := blk_frozen BK806.out 1
        obtain ⟨hnb156, hnc156⟩ := n2 NB808_807
        have hcz157_0 : wc.cell? ⟨gb808, 0, none⟩ = some (.int .i64 t803) := (blk_cell BK808.out 0).trans rfl
        have hcz157_1 : wc.cell? ⟨gb808, 1, none⟩ = some (.int .i64 t804) := (blk_cell BK808.out 1).trans rfl
        have hfz157_0 := blk_frozen BK808.out 0
        have hfz157_1 := blk_frozen BK808.out 1
        try go_wp2_with (first | ((with_reducible refine gate_callee (f := 39) rfl ?_); refine goesL_ (some 56) rfl rfl Try.func39 (by kernel_rfl) rfl #[.agg #[.int .i64 t797, .int .i64 t798], .agg #[.int .i64 t803, .int .i64 t804]] rfl (by (try simp only [List.map_toArray, List.map_cons, List.map_nil]); first | done | rfl | (simp only [List.length_drop, List.length_take]; rfl)) ?_; (with_reducible refine (ratio_Add.calls kj36 t797 t798 t803 t804 t815 t816 t817 _ A71.out).mono ?_); rintro e w158 ⟨rfl, hb⟩; refine ⟨_, rfl, ?_⟩; replace BK806 := kb BK806 hb; replace BK807 := kb BK807 hb; replace BK808 := kb BK808 hb; replace HB := wb HB hb; (try clear hb); (try clear hb2); (try clear hk); (try clear hi)) | ((with_reducible refine gate_dst (N := 7) rfl ?_); refine box_event ?hg (N := 7) ?hd (cs := #[.int .i64 0, .int .i64 0]) (t := 35) ?hr ?_; (case hd => rfl); (case hg => rfl); (case hr => first | (go_simp; done) | (go_simp; rfl)); intro gb818 hg w159 hbox hb; have BK818 := Aside0.mk (hbox); have GW818 := gs HB hg; have GE818 := gs HB hg; have NB806_818 := nl BK806 hg; have NB818_806 := nr BK806 hg; have NB807_818 := nl BK807 hg; have NB818_807 := nr BK807 hg; have NB808_818 := nl BK808 hg; have NB818_808 := nr BK808 hg; replace BK806 := kb BK806 hb; replace BK807 := kb BK807 hb; replace BK808 := kb BK808 hb; replace HB := wb HB hb; clear hb hbox hg; obtain ⟨hnb160, hnc160⟩ := n2 NB818_806; obtain ⟨hnb161, hnc161⟩ := n2 NB818_807; obtain ⟨hnb162, hnc162⟩ := n2 NB818_808; have hcz163_0 : w159.cell? ⟨gb818, 0, none⟩ = some (.int .i64 0) := (blk_cell BK818.out 0).trans rfl; have hcz163_1 : w159.cell? ⟨gb818, 1, none⟩ = some (.int .i64 0) := (blk_cell BK818.out 1).trans rfl; have hfz163_0 := blk_frozen BK818.out 0; have hfz163_1 := blk_frozen BK818.out 1; have hcz164_0 : w159.cell? ⟨gb807, 0, none⟩ = some (.int .i64 t800) := (blk_cell BK807.out 0).trans rfl; have hcz164_1 : w159.cell? ⟨gb807, 1, none⟩ = some (.int .i64 t801) := (blk_cell BK807.out 1).trans rfl; have hfz164_0 := blk_frozen BK807.out 0; have hfz164_1 := blk_frozen BK807.out 1; have hcz165_0 : w159.cell? ⟨gb808, 0, none⟩ = some (.int .i64 t803) := (blk_cell BK808.out 0).trans rfl; have hcz165_1 : w159.cell? ⟨gb808, 1, none⟩ = some (.int .i64 t804) := (blk_cell BK808.out 1).trans rfl; have hfz165_0 := blk_frozen BK808.out 0; have hfz165_1 := blk_frozen BK808.out 1) | ((with_reducible refine gate_callee (f := 39) rfl ?_); refine goesL_ (some 62) rfl rfl Try.func39 (by kernel_rfl) rfl #[.agg #[.int .i64 t800, .int .i64 t801], .agg #[.int .i64 t803, .int .i64 t804]] rfl (by (try simp only [List.map_toArray, List.map_cons, List.map_nil]); first | done | rfl | (simp only [List.length_drop, List.length_take]; rfl)) ?_; (with_reducible refine (ratio_Add.calls kj36 t800 t801 t803 t804 t819 t820 t821 _ A72.out).mono ?_); rintro e w166 ⟨rfl, hb⟩; refine ⟨_, rfl, ?_⟩; replace BK806 := kb BK806 hb; replace BK807 := kb BK807 hb; replace BK808 := kb BK808 hb; replace BK818 := Aside0.mk (blk_below (g := gb818) (o := .cells #[.int .i64 t815, .int .i64 t816] 35 (0, 0)) (by refine pe ?_; refine blk_put (cs := #[.int .i64 t815, .int .i64 0]) ?_ 1 _ rfl; refine pe ?_; refine blk_put (cs := #[.int .i64 0, .int .i64 0]) ?_ 0 _ rfl; refine pe ?_; exact BK818.out) hb); replace HB := wb HB hb; (try clear hb); (try clear hb2); (try clear hk); (try clear hi)) | ((with_reducible refine gate_dst (N := 9) rfl ?_); refine box_event ?hg (N := 9) ?hd (cs := #[.int .i64 0, .int .i64 0]) (t := 35) ?hr ?_; (case hd => rfl); (case hg => rfl); (case hr => first | (go_simp; done) | (go_simp; rfl)); intro gb822 hg w167 hbox hb; have BK822 := Aside0.mk (hbox); have GW822 := gs HB hg; have GE822 := gs HB hg; have NB806_822 := nl BK806 hg; have NB822_806 := nr BK806 hg; have NB807_822 := nl BK807 hg; have NB822_807 := nr BK807 hg; have NB808_822 := nl BK808 hg; have NB822_808 := nr BK808 hg; have NB818_822 := nl BK818 hg; have NB822_818 := nr BK818 hg; replace BK806 := kb BK806 hb; replace BK807 := kb BK807 hb; replace BK808 := kb BK808 hb; replace BK818 := kb BK818 hb; replace HB := wb HB hb; clear hb hbox hg; obtain ⟨hnb168, hnc168⟩ := n2 NB822_806; obtain ⟨hnb169, hnc169⟩ := n2 NB822_807; obtain ⟨hnb170, hnc170⟩ := n2 NB822_808; obtain ⟨hnb171, hnc171⟩ := n2 NB822_818; have hcz172_0 : w167.cell? ⟨gb822, 0, none⟩ = some (.int .i64 0) := (blk_cell BK822.out 0).trans rfl; have hcz172_1 : w167.cell? ⟨gb822, 1, none⟩ = some (.int .i64 0) := (blk_cell BK822.out 1).trans rfl; have hfz172_0 := blk_frozen BK822.out 0; have hfz172_1 := blk_frozen BK822.out 1))
        have n0_ : Aside0 (((w167.setCell ⟨gb822, 0, none⟩ (.int .i64 t819)).setCell ⟨gb822, 1, none⟩ (.int .i64 t820)).heap[gb806]? = some (.cells #[.int .i64 t797, .int .i64 t798] 35 (0, 0))) := ⟨bq BK806⟩
        have n1_ : Aside0 (((w167.setCell ⟨gb822, 0, none⟩ (.int .i64 t819)).setCell ⟨gb822, 1, none⟩ (.int .i64 t820)).heap[gb807]? = some (.cells #[.int .i64 t800, .int .i64 t801] 35 (0, 0))) := ⟨bq BK807⟩
        have n2_ : Aside0 (((w167.setCell ⟨gb822, 0, none⟩ (.int .i64 t819)).setCell ⟨gb822, 1, none⟩ (.int .i64 t820)).heap[gb808]? = some (.cells #[.int .i64 t803, .int .i64 t804] 35 (0, 0))) := ⟨bq BK808⟩
        have n3_ : Aside0 (((w167.setCell ⟨gb822, 0, none⟩ (.int .i64 t819)).setCell ⟨gb822, 1, none⟩ (.int .i64 t820)).heap[gb818]? = some (.cells #[.int .i64 t815, .int .i64 t816] 35 (0, 0))) := ⟨bq BK818⟩
        have n4_ : Aside0 (((w167.setCell ⟨gb822, 0, none⟩ (.int .i64 t819)).setCell ⟨gb822, 1, none⟩ (.int .i64 t820)).heap[gb822]? = some (.cells #[.int .i64 t819, .int .i64 t820] 35 (0, 0))) := ⟨by refine pe ?_; refine blk_put (cs := #[.int .i64 t819, .int .i64 0]) ?_ 1 _ rfl; refine pe ?_; refine blk_put (cs := #[.int .i64 0, .int .i64 0]) ?_ 0 _ rfl; refine pe ?_; exact BK822.out⟩
        have n5_ : Aside0 (Below w.heap.size w ((w167.setCell ⟨gb822, 0, none⟩ (.int .i64 t819)).setCell ⟨gb822, 1, none⟩ (.int .i64 t820))) := ⟨bw HB⟩
        (try clear BK806)
        (try clear BK807)
        (try clear BK808)
        (try clear BK818)
        (try clear BK822)
        (try clear HB)
        generalize ((w167.setCell ⟨gb822, 0, none⟩ (.int .i64 t819)).setCell ⟨gb822, 1, none⟩ (.int .i64 t820)) = w173 at n0_ n1_ n2_ n3_ n4_ n5_ ⊢
        have BK806 := n0_
        have BK807 := n1_
        have BK808 := n2_
        have BK818 := n3_
        have BK822 := n4_
        have HB := n5_
        clear n0_ n1_ n2_ n3_ n4_ n5_
        have n0_ := Aside0.mk (blk_drew BK806.out)
        have n1_ := Aside0.mk (blk_drew BK807.out)
        have n2_ := Aside0.mk (blk_drew BK808.out)
        have n3_ := Aside0.mk (blk_drew BK818.out)
        have n4_ := Aside0.mk (blk_drew BK822.out)
        have n5_ := Aside0.mk (below_drew1 HB.out)
        clear BK806
        clear BK807
        clear BK808
        clear BK818
        clear BK822
        clear HB
        have BK806 := n0_
        have BK807 := n1_
        have BK808 := n2_
        have BK818 := n3_
        have BK822 := n4_
        have HB := n5_
        clear n0_ n1_ n2_ n3_ n4_ n5_
        refine start_ (n := 19) (S := fun w' => True) (ds := []) #[false, false, false, false, false, false, false, false, false, false, false, false, false, false, false, false, false, false, false] (by kernel_rfl) rfl rfl trivial (fun hHeld => ?_); refine with_tabW awardingbodylaw01_RatioOrders.tab9 awardingbodylaw01_RatioOrders.bits9 (fun HT_ HW_ => ?_)
        generalize w173.drew = w174 at BK806 BK807 BK808 BK818 BK822 HB hHeld ⊢
        refine pure_ (i := 0) (N := some 65) (v := ?_) (a' := ?_) #[true, false, false, false, false, false, false, false, false, false, false, false, false, false, false, false, false, false, false] rfl rfl (any_of HT_.out (by kernel_rfl)) (fun _ _ _ h => h) (Or.inl ⟨by rfl, ?_⟩) ?_ ?_
        rotate_left
        ·intro w'
         go_simp
         with_reducible rfl
        rotate_left
        ·simp only [Act.put, List.setIfInBounds_toArray, List.set_cons_zero, List.set_cons_succ, i64_w, i32_w]
         rfl
        refine pure_ (i := 1) (N := some 66) (v := ?_) (a' := ?_) #[true, true, false, false, false, false, false, false, false, false, false, false, false, false, false, false, false, false, false] rfl rfl (any_of HT_.out (by kernel_rfl)) (fun _ _ _ h => h) (Or.inl ⟨by rfl, ?_⟩) ?_ ?_
        rotate_left
        ·intro w'
         go_simp
         with_reducible rfl
        rotate_left
        ·simp only [Act.put, List.setIfInBounds_toArray, List.set_cons_zero, List.set_cons_succ, i64_w, i32_w]
         rfl
        refine pure_ (i := 2) (N := some 67) (v := ?_) (a' := ?_) #[true, true, true, false, false, false, false, false, false, false, false, false, false, false, false, false, false, false, false] rfl rfl (any_of HT_.out (by kernel_rfl)) (fun _ _ _ h => h) (Or.inl ⟨by rfl, ?_⟩) ?_ ?_
        rotate_left
        ·intro w'
         go_simp
         with_reducible rfl
        rotate_left
        ·simp only [Act.put, List.setIfInBounds_toArray, List.set_cons_zero, List.set_cons_succ, i64_w, i32_w]
         rfl
        refine pure_ (i := 3) (N := some 68) (v := undef) (a' := ?_) #[true, true, true, true, false, false, false, false, false, false, false, false, false, false, false, false, false, false, false] rfl rfl (any_of HT_.out (by kernel_rfl)) (fun _ _ _ h => h) (Or.inr ⟨by rfl, rfl⟩) ?_ ?_
        rotate_left
        ·simp only [Act.put, List.setIfInBounds_toArray, List.set_cons_zero, List.set_cons_succ, i64_w, i32_w]
         rfl
        refine pure_ (i := 4) (N := some 69) (v := undef) (a' := ?_) #[true, true, true, true, true, false, false, false, false, false, false, false, false, false, false, false, false, false, false] rfl rfl (any_of HT_.out (by kernel_rfl)) (fun _ _ _ h => h) (Or.inr ⟨by rfl, rfl⟩) ?_ ?_
        rotate_left
        ·simp only [Act.put, List.setIfInBounds_toArray, List.set_cons_zero, List.set_cons_succ, i64_w, i32_w]
         rfl
        refine pure_ (i := 5) (N := some 70) (v := ?_) (a' := ?_) #[true, true, true, true, true, true, false, false, false, false, false, false, false, false, false, false, false, false, false] rfl rfl (any_of HT_.out (by kernel_rfl)) (fun _ _ _ h => h) (Or.inl ⟨by rfl, ?_⟩) ?_ ?_
        rotate_left
        ·intro w'
         go_simp
         with_reducible rfl
        rotate_left
        ·simp only [Act.put, List.setIfInBounds_toArray, List.set_cons_zero, List.set_cons_succ, i64_w, i32_w]
         rfl
        refine pure_ (i := 6) (N := some 71) (v := ?_) (a' := ?_) #[true, true, true, true, true, true, true, false, false, false, false, false, false, false, false, false, false, false, false] rfl rfl (any_of HT_.out (by kernel_rfl)) (fun _ _ _ h => h) (Or.inl ⟨by rfl, ?_⟩) ?_ ?_
        rotate_left
        ·intro w'
         go_simp
         with_reducible rfl
        rotate_left
        ·simp only [Act.put, List.setIfInBounds_toArray, List.set_cons_zero, List.set_cons_succ, i64_w, i32_w]
         rfl
        refine pure_ (i := 7) (N := some 72) (v := undef) (a' := ?_) #[true, true, true, true, true, true, true, true, false, false, false, false, false, false, false, false, false, false, false] rfl rfl (any_of HT_.out (by kernel_rfl)) (fun _ _ _ h => h) (Or.inr ⟨by rfl, rfl⟩) ?_ ?_
        rotate_left
        ·simp only [Act.put, List.setIfInBounds_toArray, List.set_cons_zero, List.set_cons_succ, i64_w, i32_w]
         rfl
        refine pure_ (i := 8) (N := some 73) (v := undef) (a' := ?_) #[true, true, true, true, true, true, true, true, true, false, false, false, false, false, false, false, false, false, false] rfl rfl (any_of HT_.out (by kernel_rfl)) (fun _ _ _ h => h) (Or.inr ⟨by rfl, rfl⟩) ?_ ?_
        rotate_left
        ·simp only [Act.put, List.setIfInBounds_toArray, List.set_cons_zero, List.set_cons_succ, i64_w, i32_w]
         rfl
        refine pure_ (i := 9) (N := some 74) (v := undef) (a' := ?_) #[true, true, true, true, true, true, true, true, true, true, false, false, false, false, false, false, false, false, false] rfl rfl (any_of HT_.out (by kernel_rfl)) (fun _ _ _ h => h) (Or.inr ⟨by rfl, rfl⟩) ?_ ?_
        rotate_left
        ·simp only [Act.put, List.setIfInBounds_toArray, List.set_cons_zero, List.set_cons_succ, i64_w, i32_w]
         rfl
        refine pure_ (i := 10) (N := some 75) (v := undef) (a' := ?_) #[true, true, true, true, true, true, true, true, true, true, true, false, false, false, false, false, false, false, false] rfl rfl (any_of HT_.out (by kernel_rfl)) (fun _ _ _ h => h) (Or.inr ⟨by rfl, rfl⟩) ?_ ?_
        rotate_left
        ·simp only [Act.put, List.setIfInBounds_toArray, List.set_cons_zero, List.set_cons_succ, i64_w, i32_w]
         rfl
        refine pure_ (i := 11) (N := some 76) (v := undef) (a' := ?_) #[true, true, true, true, true, true, true, true, true, true, true, true, false, false, false, false, false, false, false] rfl rfl (any_of HT_.out (by kernel_rfl)) (fun _ _ _ h => h) (Or.inr ⟨by rfl, rfl⟩) ?_ ?_
        rotate_left
        ·simp only [Act.put, List.setIfInBounds_toArray, List.set_cons_zero, List.set_cons_succ, i64_w, i32_w]
         rfl
        refine pure_ (i := 12) (N := some 77) (v := undef) (a' := ?_) #[true, true, true, true, true, true, true, true, true, true, true, true, true, false, false, false, false, false, false] rfl rfl (any_of HT_.out (by kernel_rfl)) (fun _ _ _ h => h) (Or.inr ⟨by rfl, rfl⟩) ?_ ?_
        rotate_left
        ·simp only [Act.put, List.setIfInBounds_toArray, List.set_cons_zero, List.set_cons_succ, i64_w, i32_w]
         rfl
        refine pure_ (i := 13) (N := some 78) (v := undef) (a' := ?_) #[true, true, true, true, true, true, true, true, true, true, true, true, true, true, false, false, false, false, false] rfl rfl (any_of HT_.out (by kernel_rfl)) (fun _ _ _ h => h) (Or.inr ⟨by rfl, rfl⟩) ?_ ?_
        rotate_left
        ·simp only [Act.put, List.setIfInBounds_toArray, List.set_cons_zero, List.set_cons_succ, i64_w, i32_w]
         rfl
        refine pure_ (i := 14) (N := some 79) (v := ?_) (a' := ?_) #[true, true, true, true, true, true, true, true, true, true, true, true, true, true, true, false, false, false, false] rfl rfl (any_of HT_.out (by kernel_rfl)) (fun _ _ _ h => h) (Or.inl ⟨by rfl, ?_⟩) ?_ ?_
        rotate_left
        ·intro w'
         go_simp
         with_reducible rfl
        rotate_left
        ·simp only [Act.put, List.setIfInBounds_toArray, List.set_cons_zero, List.set_cons_succ, i64_w, i32_w]
         rfl
        refine pure_ (i := 15) (N := some 80) (v := ?_) (a' := ?_) #[true, true, true, true, true, true, true, true, true, true, true, true, true, true, true, true, false, false, false] rfl rfl (any_of HT_.out (by kernel_rfl)) (fun _ _ _ h => h) (Or.inl ⟨by rfl, ?_⟩) ?_ ?_
        rotate_left
        ·intro w'
         go_simp
         with_reducible rfl
        rotate_left
        ·simp only [Act.put, List.setIfInBounds_toArray, List.set_cons_zero, List.set_cons_succ, i64_w, i32_w]
         rfl
        refine one_ (i := 16) (N := some 81) #[true, true, true, true, true, true, true, true, true, true, true, true, true, true, true, true, true, false, false] rfl rfl (one_of HT_.out (by kernel_rfl)) (by decide) (fun K hK => ?_)
        refine goes_ Try.func18 (by kernel_rfl) rfl #[] (by rfl) rfl rfl (by (try simp only [List.map_toArray, List.map_cons, List.map_nil]); first | done | rfl | (simp only [List.length_drop, List.length_take]; rfl)) ?_
        with_reducible refine (awardingbodylaw01_awake.calls kj36  t827 _ A152.out).mono ?_
        rintro e w175 ⟨rfl, hb⟩
        refine ⟨_, rfl, ?_⟩
        have n0_ := kb BK806 hb
        have n1_ := kb BK807 hb
        have n2_ := kb BK808 hb
        have n3_ := kb BK818 hb
        have n4_ := kb BK822 hb
        have n5_ := wb HB hb
        clear BK806
        clear BK807
        clear BK808
        clear BK818
        clear BK822
        clear HB
        have BK806 := n0_
        have BK807 := n1_
        have BK808 := n2_
        have BK818 := n3_
        have BK822 := n4_
        have HB := n5_
        clear n0_ n1_ n2_ n3_ n4_ n5_
        (try clear hb)
        (try clear hb2)
        (try clear hk)
        (try clear hi)
        refine hK.out _ _ trivial (fun hHeld => ?_)
        clear hK K
        refine norm_ (a' := ?_) ?_ ?_
        rotate_left
        ·show Act.put _ (some 81) _ = _
         simp only [Act.put, List.setIfInBounds_toArray, List.set_cons_zero, List.set_cons_succ, i64_w, i32_w]
         rfl
        refine pure_ (i := 17) (N := some 82) (v := ?_) (a' := ?_) #[true, true, true, true, true, true, true, true, true, true, true, true, true, true, true, true, true, true, false] rfl rfl (any_of HT_.out (by kernel_rfl)) (fun _ _ _ h => h) (Or.inl ⟨by rfl, ?_⟩) ?_ ?_
        rotate_left
        ·intro w'
         go_simp
         with_reducible rfl
        rotate_left
        ·simp only [Act.put, List.setIfInBounds_toArray, List.set_cons_zero, List.set_cons_succ, i64_w, i32_w]
         rfl
        refine pure_ (i := 18) (N := some 2) (v := ?_) (a' := ?_) #[true, true, true, true, true, true, true, true, true, true, true, true, true, true, true, true, true, true, true] rfl rfl (any_of HT_.out (by kernel_rfl)) (fun _ _ _ h => h) (Or.inl ⟨by rfl, ?_⟩) ?_ ?_
        rotate_left
        ·intro w'
         go_simp
         with_reducible rfl
        rotate_left
        ·simp only [Act.put, List.setIfInBounds_toArray, List.set_cons_zero, List.set_cons_succ, i64_w, i32_w]
         rfl
        refine done_ (done_of HT_.out (by kernel_rfl)) ?_
        try go_wp2
        go_ret
        exact ⟨by first | rfl | (simp [errW_none, errW_some] <;> rfl) | (simp [*, errW_none, errW_some] <;> rfl), bw HB⟩

/-- THE ONE PURE STATEMENT of awardingbodylaw01_RatioOrders: yours. -/
def awardingbodylaw01_RatioOrders.Pure : Prop := ∀ (l0 : List Int), l0.length ≤ maxLen → l0.length * 8 ≤ 140737488351232 → (∀ x ∈ l0, (Lit.int .i64 x).wf = true) → ∃ k, awardingbodylaw01_RatioOrders.f k l0 = some true
theorem awardingbodylaw01_RatioOrders.walk (P : awardingbodylaw01_RatioOrders.Pure) (a0 : Option Addr) (len0 cap0 : Nat) (z0 : List Int) (w : World) (w0 : (a0 = none ∧ len0 = 0 ∧ cap0 = 0 ∧ z0 = []) ∨ ∃ x, a0 = some x ∧ len0 ≤ cap0 ∧ cap0 ≤ maxLen ∧ z0.length = cap0 ∧ (∀ i, i < z0.length → w.cell? (x.add i) = some (.int .i64 (z0.getD i 0))) ∧ ∀ n ∈ z0, (Lit.int .i64 n).wf = true) (y0 : len0 * 8 ≤ 140737488351232) :
  Calls Try.prog 13 #[.slice a0 len0 cap0] w fun e w' => e = .returned (.bool true) ∧ Below w.heap.size w w' := by
 obtain ⟨l0, rfl, hr0, hm0, hw0, hc0⟩ := ReadsInt.ofRowC w0
 obtain ⟨k, h⟩ := P l0 hm0 y0 hw0
 refine (awardingbodylaw01_RatioOrders.calls k _ _ l0 true w (Kd.C_of_reads (d := (0 : Int)) (h1 := fun _ => rfl) hr0) hc0 h).mono ?_
 rintro e w' ⟨rfl, hd⟩
 exact ⟨rfl, hd⟩

end Go.Proofs.Ytcbohbeipgcfhaa.G
