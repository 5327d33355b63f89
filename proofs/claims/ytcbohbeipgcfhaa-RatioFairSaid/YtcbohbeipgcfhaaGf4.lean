-- Printed by gp.py (a program of this session's own, over the kit's printer) out of the translation; Lean checks it.
import Derived.Test.YtcbohbeipgcfhaaAppC
import Derived.Test.YtcbohbeipgcfhaaG0
import Derived.Test.YtcbohbeipgcfhaaGf18
import Derived.Test.YtcbohbeipgcfhaaGf19
import Derived.Test.YtcbohbeipgcfhaaGf20
import Derived.Test.YtcbohbeipgcfhaaGf21
namespace Go.Proofs.Ytcbohbeipgcfhaa.G
open Go.Proofs.Ytcbohbeipgcfhaa.Given Go.Proofs.Ytcbohbeipgcfhaa.Short
open Go.RowKit Go.Proofs.YtcbohbeipgcfhaaW.PrintWords Go.Proofs.YtcbohbeipgcfhaaW.PrintLast Go.Proofs.YtcbohbeipgcfhaaW.PrintMore
attribute [local go_sem] max2_int min2_int max_two min_two max_three min_three max_four min_four   -- for this text's walks alone
set_option linter.unusedVariables false
set_option linter.unusedSimpArgs false

/-! ### awardingbodylaw01_RatioFair: function 4 -/
mutual
def awardingbodylaw01_RatioFair.l0 : Nat → Int → List Int → Int → Int → Option (Bool)
  | 0, _, _, _, _ => none
  | k + 1, x1, x5, x6, x7 => if x7 < (x5.length : Int) then (if 0 ≤ x7 then (awardingbodylaw01_RatioFair.l0 k x1 x5 (wrap64 (x6 + (rd x5 x7))) (wrap64 (x7 + 1))) else (none)) else ((ratio_Apportion.f x1 x5).bind fun bt192 => (if x6 = 0 then (if bt192.2 = 10 then (if (bt192.1.length : Int) = 0 then ((awardingbodylaw01_awake.f k).bind fun t196 => (some t196)) else (some false)) else (some false)) else (if bt192.2 = 0 then (awardingbodylaw01_RatioFair.j1 k x1 x5 x6 bt192.1 ((bt192.1.length : Int) != (x5.length : Int))) else (awardingbodylaw01_RatioFair.j1 k x1 x5 x6 bt192.1 true))))
def awardingbodylaw01_RatioFair.j1 : Nat → Int → List Int → Int → List Int → Bool → Option (Bool)
  | 0, _, _, _, _, _ => none
  | k + 1, x1, x5, x6, x8, x56 => if x56 = true then (some false) else (awardingbodylaw01_RatioFair.l1 k x1 x5 x6 x8 x1 0)
def awardingbodylaw01_RatioFair.l1 : Nat → Int → List Int → Int → List Int → Int → Int → Option (Bool)
  | 0, _, _, _, _, _, _ => none
  | k + 1, x1, x5, x6, x8, x10, x11 => if x11 < (x5.length : Int) then (if 0 ≤ x11 then (if x11 < (x8.length : Int) then (if (wrap64 ((rd x8 x11) * x6)) ≤ (wrap64 ((wrap64 (x1 * (rd x5 x11))) - x6)) then (awardingbodylaw01_RatioFair.j3 k x1 x5 x6 x8 (wrap64 (x10 - (rd x8 x11))) x11 true) else (awardingbodylaw01_RatioFair.j3 k x1 x5 x6 x8 (wrap64 (x10 - (rd x8 x11))) x11 (decide ((wrap64 ((rd x8 x11) * x6)) ≥ (wrap64 ((wrap64 (x1 * (rd x5 x11))) + x6)))))) else (none)) else (none)) else (if x10 = 0 then ((awardingbodylaw01_awake.f k).bind fun t197 => (some t197)) else (some false))
def awardingbodylaw01_RatioFair.j3 : Nat → Int → List Int → Int → List Int → Int → Int → Bool → Option (Bool)
  | 0, _, _, _, _, _, _, _ => none
  | k + 1, x1, x5, x6, x8, x10, x11, x101 => if x101 = true then (some false) else (awardingbodylaw01_RatioFair.l2 k x1 x5 x6 x8 x10 x11 0)
def awardingbodylaw01_RatioFair.l2 : Nat → Int → List Int → Int → List Int → Int → Int → Int → Option (Bool)
  | 0, _, _, _, _, _, _, _ => none
  | k + 1, x1, x5, x6, x8, x10, x11, x12 => if x12 < (x5.length : Int) then (if 0 ≤ x11 then (if x11 < (x5.length : Int) then (if 0 ≤ x12 then (if (rd x5 x11) > (rd x5 x12) then (if x11 < (x8.length : Int) then (if x12 < (x8.length : Int) then (if (rd x8 x11) < (rd x8 x12) then (some false) else (awardingbodylaw01_RatioFair.l2 k x1 x5 x6 x8 x10 x11 (wrap64 (x12 + 1)))) else (none)) else (none)) else (awardingbodylaw01_RatioFair.l2 k x1 x5 x6 x8 x10 x11 (wrap64 (x12 + 1)))) else (none)) else (none)) else (none)) else (awardingbodylaw01_RatioFair.l1 k x1 x5 x6 x8 x10 (wrap64 (x11 + 1)))
end
def awardingbodylaw01_RatioFair.f (k : Nat) (l0 : List Int) (a1 : Int) : Option (Bool) := (awardingbodymake_New.f l0).bind fun bt183 => ((awardingbodymake_Tape_Ints.f k bt183.1 bt183.2 8 0 60).bind fun bt186 => ((awardingbodymake_Cut.f a1 500).bind fun t190 => (awardingbodylaw01_RatioFair.l0 k t190 bt186.1 0 0)))
theorem awardingbodylaw01_RatioFair.mono_l : ∀ k, (∀ y0 y1 y2 y3, LeO (awardingbodylaw01_RatioFair.l0 k y0 y1 y2 y3) (awardingbodylaw01_RatioFair.l0 (k + 1) y0 y1 y2 y3)) ∧ (∀ y0 y1 y2 y3 y4, LeO (awardingbodylaw01_RatioFair.j1 k y0 y1 y2 y3 y4) (awardingbodylaw01_RatioFair.j1 (k + 1) y0 y1 y2 y3 y4)) ∧ (∀ y0 y1 y2 y3 y4 y5, LeO (awardingbodylaw01_RatioFair.l1 k y0 y1 y2 y3 y4 y5) (awardingbodylaw01_RatioFair.l1 (k + 1) y0 y1 y2 y3 y4 y5)) ∧ (∀ y0 y1 y2 y3 y4 y5 y6, LeO (awardingbodylaw01_RatioFair.j3 k y0 y1 y2 y3 y4 y5 y6) (awardingbodylaw01_RatioFair.j3 (k + 1) y0 y1 y2 y3 y4 y5 y6)) ∧ (∀ y0 y1 y2 y3 y4 y5 y6, LeO (awardingbodylaw01_RatioFair.l2 k y0 y1 y2 y3 y4 y5 y6) (awardingbodylaw01_RatioFair.l2 (k + 1) y0 y1 y2 y3 y4 y5 y6))
  | 0 => ⟨fun _ _ _ _ r h => by simp [awardingbodylaw01_RatioFair.l0] at h, fun _ _ _ _ _ r h => by simp [awardingbodylaw01_RatioFair.j1] at h, fun _ _ _ _ _ _ r h => by simp [awardingbodylaw01_RatioFair.l1] at h, fun _ _ _ _ _ _ _ r h => by simp [awardingbodylaw01_RatioFair.j3] at h, fun _ _ _ _ _ _ _ r h => by simp [awardingbodylaw01_RatioFair.l2] at h⟩
  | k + 1 => by
    obtain ⟨ih0, ih1, ih2, ih3, ih4⟩ := awardingbodylaw01_RatioFair.mono_l k
    refine ⟨?_, ?_, ?_, ?_, ?_⟩
    · intro y0 y1 y2 y3
      unfold awardingbodylaw01_RatioFair.l0
      repeat' first
      | (with_reducible exact ih0 _ _ _ _)
      | (with_reducible exact ih1 _ _ _ _ _)
      | (with_reducible exact ih2 _ _ _ _ _ _)
      | (with_reducible exact ih3 _ _ _ _ _ _ _)
      | (with_reducible exact ih4 _ _ _ _ _ _ _)
      | (with_reducible exact awardingbodylaw01_awake.mono _)
      | (with_reducible exact awardingbodymake_Tape_Ints.mono _ _ _ _ _ _)
      | (with_reducible exact LeO.refl _)
      | (with_reducible exact LeO.none _)
      | (with_reducible refine LeO.ite ?_ ?_)
      | (with_reducible refine LeO.bind ?_ (fun _ => ?_))
      | exact ih0 _ _ _ _
      | exact ih1 _ _ _ _ _
      | exact ih2 _ _ _ _ _ _
      | exact ih3 _ _ _ _ _ _ _
      | exact ih4 _ _ _ _ _ _ _
      | exact awardingbodylaw01_awake.mono _
      | exact awardingbodymake_Tape_Ints.mono _ _ _ _ _ _
      | exact LeO.none _
      | refine LeO.ite ?_ ?_
      | refine LeO.bind ?_ (fun _ => ?_)
    · intro y0 y1 y2 y3 y4
      unfold awardingbodylaw01_RatioFair.j1
      repeat' first
      | (with_reducible exact ih0 _ _ _ _)
      | (with_reducible exact ih1 _ _ _ _ _)
      | (with_reducible exact ih2 _ _ _ _ _ _)
      | (with_reducible exact ih3 _ _ _ _ _ _ _)
      | (with_reducible exact ih4 _ _ _ _ _ _ _)
      | (with_reducible exact awardingbodylaw01_awake.mono _)
      | (with_reducible exact awardingbodymake_Tape_Ints.mono _ _ _ _ _ _)
      | (with_reducible exact LeO.refl _)
      | (with_reducible exact LeO.none _)
      | (with_reducible refine LeO.ite ?_ ?_)
      | (with_reducible refine LeO.bind ?_ (fun _ => ?_))
      | exact ih0 _ _ _ _
      | exact ih1 _ _ _ _ _
      | exact ih2 _ _ _ _ _ _
      | exact ih3 _ _ _ _ _ _ _
      | exact ih4 _ _ _ _ _ _ _
      | exact awardingbodylaw01_awake.mono _
      | exact awardingbodymake_Tape_Ints.mono _ _ _ _ _ _
      | exact LeO.none _
      | refine LeO.ite ?_ ?_
      | refine LeO.bind ?_ (fun _ => ?_)
    · intro y0 y1 y2 y3 y4 y5
      unfold awardingbodylaw01_RatioFair.l1
      repeat' first
      | (with_reducible exact ih0 _ _ _ _)
      | (with_reducible exact ih1 _ _ _ _ _)
      | (with_reducible exact ih2 _ _ _ _ _ _)
      | (with_reducible exact ih3 _ _ _ _ _ _ _)
      | (with_reducible exact ih4 _ _ _ _ _ _ _)
      | (with_reducible exact awardingbodylaw01_awake.mono _)
      | (with_reducible exact awardingbodymake_Tape_Ints.mono _ _ _ _ _ _)
      | (with_reducible exact LeO.refl _)
      | (with_reducible exact LeO.none _)
      | (with_reducible refine LeO.ite ?_ ?_)
      | (with_reducible refine LeO.bind ?_ (fun _ => ?_))
      | exact ih0 _ _ _ _
      | exact ih1 _ _ _ _ _
      | exact ih2 _ _ _ _ _ _
      | exact ih3 _ _ _ _ _ _ _
      | exact ih4 _ _ _ _ _ _ _
      | exact awardingbodylaw01_awake.mono _
      | exact awardingbodymake_Tape_Ints.mono _ _ _ _ _ _
      | exact LeO.none _
      | refine LeO.ite ?_ ?_
      | refine LeO.bind ?_ (fun _ => ?_)
    · intro y0 y1 y2 y3 y4 y5 y6
      unfold awardingbodylaw01_RatioFair.j3
      repeat' first
      | (with_reducible exact ih0 _ _ _ _)
      | (with_reducible exact ih1 _ _ _ _ _)
      | (with_reducible exact ih2 _ _ _ _ _ _)
      | (with_reducible exact ih3 _ _ _ _ _ _ _)
      | (with_reducible exact ih4 _ _ _ _ _ _ _)
      | (with_reducible exact awardingbodylaw01_awake.mono _)
      | (with_reducible exact awardingbodymake_Tape_Ints.mono _ _ _ _ _ _)
      | (with_reducible exact LeO.refl _)
      | (with_reducible exact LeO.none _)
      | (with_reducible refine LeO.ite ?_ ?_)
      | (with_reducible refine LeO.bind ?_ (fun _ => ?_))
      | exact ih0 _ _ _ _
      | exact ih1 _ _ _ _ _
      | exact ih2 _ _ _ _ _ _
      | exact ih3 _ _ _ _ _ _ _
      | exact ih4 _ _ _ _ _ _ _
      | exact awardingbodylaw01_awake.mono _
      | exact awardingbodymake_Tape_Ints.mono _ _ _ _ _ _
      | exact LeO.none _
      | refine LeO.ite ?_ ?_
      | refine LeO.bind ?_ (fun _ => ?_)
    · intro y0 y1 y2 y3 y4 y5 y6
      unfold awardingbodylaw01_RatioFair.l2
      repeat' first
      | (with_reducible exact ih0 _ _ _ _)
      | (with_reducible exact ih1 _ _ _ _ _)
      | (with_reducible exact ih2 _ _ _ _ _ _)
      | (with_reducible exact ih3 _ _ _ _ _ _ _)
      | (with_reducible exact ih4 _ _ _ _ _ _ _)
      | (with_reducible exact awardingbodylaw01_awake.mono _)
      | (with_reducible exact awardingbodymake_Tape_Ints.mono _ _ _ _ _ _)
      | (with_reducible exact LeO.refl _)
      | (with_reducible exact LeO.none _)
      | (with_reducible refine LeO.ite ?_ ?_)
      | (with_reducible refine LeO.bind ?_ (fun _ => ?_))
      | exact ih0 _ _ _ _
      | exact ih1 _ _ _ _ _
      | exact ih2 _ _ _ _ _ _
      | exact ih3 _ _ _ _ _ _ _
      | exact ih4 _ _ _ _ _ _ _
      | exact awardingbodylaw01_awake.mono _
      | exact awardingbodymake_Tape_Ints.mono _ _ _ _ _ _
      | exact LeO.none _
      | refine LeO.ite ?_ ?_
      | refine LeO.bind ?_ (fun _ => ?_)
theorem awardingbodylaw01_RatioFair.mono : ∀ a0 a1 k, LeO (awardingbodylaw01_RatioFair.f k a0 a1) (awardingbodylaw01_RatioFair.f (k + 1) a0 a1) := by
  intro a0 a1 k
  obtain ⟨ih0, ih1, ih2, ih3, ih4⟩ := awardingbodylaw01_RatioFair.mono_l k
  unfold awardingbodylaw01_RatioFair.f
  repeat' first
      | (with_reducible exact ih0 _ _ _ _)
      | (with_reducible exact ih1 _ _ _ _ _)
      | (with_reducible exact ih2 _ _ _ _ _ _)
      | (with_reducible exact ih3 _ _ _ _ _ _ _)
      | (with_reducible exact ih4 _ _ _ _ _ _ _)
      | (with_reducible exact awardingbodylaw01_awake.mono _)
      | (with_reducible exact awardingbodymake_Tape_Ints.mono _ _ _ _ _ _)
      | (with_reducible exact LeO.refl _)
      | (with_reducible exact LeO.none _)
      | (with_reducible refine LeO.ite ?_ ?_)
      | (with_reducible refine LeO.bind ?_ (fun _ => ?_))
      | exact ih0 _ _ _ _
      | exact ih1 _ _ _ _ _
      | exact ih2 _ _ _ _ _ _
      | exact ih3 _ _ _ _ _ _ _
      | exact ih4 _ _ _ _ _ _ _
      | exact awardingbodylaw01_awake.mono _
      | exact awardingbodymake_Tape_Ints.mono _ _ _ _ _ _
      | exact LeO.none _
      | refine LeO.ite ?_ ?_
      | refine LeO.bind ?_ (fun _ => ?_)
set_option maxHeartbeats 8000000 in
set_option maxRecDepth 100000 in
theorem awardingbodylaw01_RatioFair.calls (k : Nat) (A0 : Option Addr) (c0 : Nat) (l0 : List Int) (a1 : Int) (r : Bool) (w : World) (hr0 : Kd.C (Kd.int .i64) w A0 l0.length l0) (hc0 : l0.length ≤ c0) (h : awardingbodylaw01_RatioFair.f k l0 a1 = some r) :
    Calls Try.prog 4 #[.slice A0 l0.length c0, .int .i64 a1] w fun e w' => e = .returned (.bool r) ∧ Below w.heap.size w w' := by
  have HR0 := Aside0.mk hr0
  have HC0 := Aside0.mk hc0
  clear hr0 hc0
  have HB := Aside0.mk (Below.refl w.heap.size w)
  have H : ((awardingbodymake_New.f l0).bind fun bt183 => ((awardingbodymake_Tape_Ints.f k bt183.1 bt183.2 8 0 60).bind fun bt186 => ((awardingbodymake_Cut.f a1 500).bind fun t190 => (awardingbodylaw01_RatioFair.l0 k t190 bt186.1 0 0)))) = some r := h
  clear h
  replace H := Option.bind_eq_some_iff.mp H
  obtain ⟨⟨t183, t184⟩, A30, H⟩ := H
  replace H : ((awardingbodymake_Tape_Ints.f k t183 t184 8 0 60).bind fun bt186 => ((awardingbodymake_Cut.f a1 500).bind fun t190 => (awardingbodylaw01_RatioFair.l0 k t190 bt186.1 0 0))) = some r := H
  have A3 := Aside0.mk A30
  clear A30
  replace H := Option.bind_eq_some_iff.mp H
  obtain ⟨⟨t186, t189⟩, A40, H⟩ := H
  replace H : ((awardingbodymake_Cut.f a1 500).bind fun t190 => (awardingbodylaw01_RatioFair.l0 k t190 t186 0 0)) = some r := H
  have A4 := Aside0.mk A40
  clear A40
  replace H := Option.bind_eq_some_iff.mp H
  obtain ⟨t190, A50, H⟩ := H
  replace H : (awardingbodylaw01_RatioFair.l0 k t190 t186 0 0) = some r := H
  have A5 := Aside0.mk A50
  clear A50
  have H' := Aside0.mk H
  clear H
  go_enter Try.func4, Try.ntmps4
  go_wp2_with (first | (go_at_call 19; (with_reducible refine (awardingbodymake_New.calls _ _ l0 t183 t184 w _ ?side1 ?side2 ?side3 A3.out).mono ?_); (case side1 => repeat (first | (with_reducible first | exact HB.out | apply below_alloc | apply pw_below_drewN | apply below_drew1) | exact HB.out)); (case side2 => exact HR0.out); (case side3 => exact HC0.out); rintro e w6 ⟨g185, rfl, hi, hb, hb2⟩; have HI185 := Aside0.mk (hi); replace HB := Aside0.mk (hb); (try clear hb); (try clear hb2); (try clear hk); (try clear hi)) | (go_at_call 20; (with_reducible refine (awardingbodymake_Tape_Ints.calls k g185 t183 t184 8 0 60 t186 t189 w _ ?side1 ?side2 A4.out).mono ?_); (case side1 => repeat (first | (with_reducible first | exact HI185.out | apply IsS53.alloc | apply IsS53.drewN | apply IsS53.drew | apply IsS53.set_1) | exact HI185.out)); (case side2 => repeat (first | (with_reducible first | exact HB.out | apply below_alloc | apply pw_below_drewN | apply below_drew1 | refine below_set ?_ (IsS53.ge HI185.out)) | exact HB.out)); rintro e w7 ⟨v187, rfl, ho0, hi, hb, hk⟩; have HO188 := Aside0.mk (Kd.R_lower ho0 (below_size (by repeat (first | (with_reducible first | exact HB.out | apply below_alloc | apply pw_below_drewN | apply below_drew1 | refine below_set ?_ (IsS53.ge HI185.out)) | exact HB.out)))); replace HB := Aside0.mk (hb); replace HI185 := Aside0.mk (hi); (try clear hb); (try clear hb2); (try clear hk); (try clear hi); (try clear ho0)) | (go_at_call 21; (with_reducible refine (awardingbodymake_Cut.calls a1 500 t190 _ A5.out).mono ?_); rintro e w' ⟨rfl, ⟨nd, rfl⟩⟩; (try first | exact ⟨rfl, _, World.drewN_drewN _ _ _⟩ | exact ⟨rfl, _, Eq.trans (World.drewN_drewN _ _ _) (congrArg (World.drewN _) (Nat.add_assoc _ _ _))⟩)))
  repeat (go_quiet (first | (go_at_call 19; (with_reducible refine (awardingbodymake_New.calls _ _ l0 t183 t184 w _ ?side1 ?side2 ?side3 A3.out).mono ?_); (case side1 => repeat (first | (with_reducible first | exact HB.out | apply below_alloc | apply pw_below_drewN | apply below_drew1) | exact HB.out)); (case side2 => exact HR0.out); (case side3 => exact HC0.out); rintro e w6 ⟨g185, rfl, hi, hb, hb2⟩; have HI185 := Aside0.mk (hi); replace HB := Aside0.mk (hb); (try clear hb); (try clear hb2); (try clear hk); (try clear hi)) | (go_at_call 20; (with_reducible refine (awardingbodymake_Tape_Ints.calls k g185 t183 t184 8 0 60 t186 t189 w _ ?side1 ?side2 A4.out).mono ?_); (case side1 => repeat (first | (with_reducible first | exact HI185.out | apply IsS53.alloc | apply IsS53.drewN | apply IsS53.drew | apply IsS53.set_1) | exact HI185.out)); (case side2 => repeat (first | (with_reducible first | exact HB.out | apply below_alloc | apply pw_below_drewN | apply below_drew1 | refine below_set ?_ (IsS53.ge HI185.out)) | exact HB.out)); rintro e w7 ⟨v187, rfl, ho0, hi, hb, hk⟩; have HO188 := Aside0.mk (Kd.R_lower ho0 (below_size (by repeat (first | (with_reducible first | exact HB.out | apply below_alloc | apply pw_below_drewN | apply below_drew1 | refine below_set ?_ (IsS53.ge HI185.out)) | exact HB.out)))); replace HB := Aside0.mk (hb); replace HI185 := Aside0.mk (hi); (try clear hb); (try clear hb2); (try clear hk); (try clear hi); (try clear ho0)) | (go_at_call 21; (with_reducible refine (awardingbodymake_Cut.calls a1 500 t190 _ A5.out).mono ?_); rintro e w' ⟨rfl, ⟨nd, rfl⟩⟩; (try first | exact ⟨rfl, _, World.drewN_drewN _ _ _⟩ | exact ⟨rfl, _, Eq.trans (World.drewN_drewN _ _ _) (congrArg (World.drewN _) (Nat.add_assoc _ _ _))⟩))); try go_wp2_with (first | (go_at_call 19; (with_reducible refine (awardingbodymake_New.calls _ _ l0 t183 t184 w _ ?side1 ?side2 ?side3 A3.out).mono ?_); (case side1 => repeat (first | (with_reducible first | exact HB.out | apply below_alloc | apply pw_below_drewN | apply below_drew1) | exact HB.out)); (case side2 => exact HR0.out); (case side3 => exact HC0.out); rintro e w6 ⟨g185, rfl, hi, hb, hb2⟩; have HI185 := Aside0.mk (hi); replace HB := Aside0.mk (hb); (try clear hb); (try clear hb2); (try clear hk); (try clear hi)) | (go_at_call 20; (with_reducible refine (awardingbodymake_Tape_Ints.calls k g185 t183 t184 8 0 60 t186 t189 w _ ?side1 ?side2 A4.out).mono ?_); (case side1 => repeat (first | (with_reducible first | exact HI185.out | apply IsS53.alloc | apply IsS53.drewN | apply IsS53.drew | apply IsS53.set_1) | exact HI185.out)); (case side2 => repeat (first | (with_reducible first | exact HB.out | apply below_alloc | apply pw_below_drewN | apply below_drew1 | refine below_set ?_ (IsS53.ge HI185.out)) | exact HB.out)); rintro e w7 ⟨v187, rfl, ho0, hi, hb, hk⟩; have HO188 := Aside0.mk (Kd.R_lower ho0 (below_size (by repeat (first | (with_reducible first | exact HB.out | apply below_alloc | apply pw_below_drewN | apply below_drew1 | refine below_set ?_ (IsS53.ge HI185.out)) | exact HB.out)))); replace HB := Aside0.mk (hb); replace HI185 := Aside0.mk (hi); (try clear hb); (try clear hb2); (try clear hk); (try clear hi); (try clear ho0)) | (go_at_call 21; (with_reducible refine (awardingbodymake_Cut.calls a1 500 t190 _ A5.out).mono ?_); rintro e w' ⟨rfl, ⟨nd, rfl⟩⟩; (try first | exact ⟨rfl, _, World.drewN_drewN _ _ _⟩ | exact ⟨rfl, _, Eq.trans (World.drewN_drewN _ _ _) (congrArg (World.drewN _) (Nat.add_assoc _ _ _))⟩))))
  (try simp only [Act.put, List.setIfInBounds_toArray, List.set_cons_zero, List.set_cons_succ])
  go_loopg [6, 7] k (fun kq v6 v7 w' => ∃ (x6_1 : Int) (x7_1 : Int), v6 = .int .i64 x6_1 ∧ v7 = .int .i64 x7_1 ∧ Aside0 (awardingbodylaw01_RatioFair.l0 kq t190 t186 x6_1 x7_1 = some r) ∧ Aside0 (kq ≤ k) ∧ Aside0 (Kd.R (Kd.int .i64) 3 w' w.heap.size (fun _ => True) v187 t186) ∧ Aside0 (Below w.heap.size w w'))
  case atStart => exact ⟨(0), (0), (by first | rfl | (simp; done) | (simp [*]; done)), (by first | rfl | (simp; done) | (simp [*]; done)), H', ⟨Nat.le_refl _⟩, ⟨by (with_reducible repeat (first | apply Kd.R_alloc | apply Kd.R_drewN | apply Kd.R_drew)); exact HO188.out⟩, ⟨by repeat (first | (with_reducible first | exact HB.out | apply below_alloc | apply pw_below_drewN | apply below_drew1 | refine below_set ?_ (IsS53.ge HI185.out)) | exact HB.out)⟩⟩
  case round =>
    clear H'
    try clear p2
    try clear c4
    obtain ⟨x6_1, x7_1, rfl, rfl, HA, HK1, HO_5, HB⟩ := hrel
    cases gk with
    | zero => exact absurd HA.out (by simp [awardingbodylaw01_RatioFair.l0])
    | succ k1 =>
      have H := HA.out
      clear HA
      simp only [awardingbodylaw01_RatioFair.l0] at H
      by_cases c8 : x7_1 < (t186.length : Int)
      · rw [if_pos c8] at H
        have c8b0 : decide (x7_1 < (t186.length : Int)) = true := decide_eq_true c8
        clear c8
        by_cases c9 : 0 ≤ x7_1
        · rw [if_pos c9] at H
          have c9b0 : decide (0 ≤ x7_1) = true := decide_eq_true c9
          clear c9
          have H' := Aside0.mk H
          clear H
          obtain ⟨Ao10, co10, eo10⟩ := Kd.R_slice HO_5.out
          subst eo10
          have p191 : 0 ≤ (x7_1 : Int) := of_decide_eq_true (by first | (with_reducible assumption) | assumption)
          have q191 : x7_1 < (t186.length : Int) := of_decide_eq_true (by first | (with_reducible assumption) | assumption)
          obtain ⟨ad191, e191, hx191_0⟩ := Kd.at_int (Kd.R_reads' HO_5.out).2.2 x7_1 p191 q191
          cases e191
          replace p191 := eq_true p191
          replace q191 := eq_true q191
          go_wp2
          repeat (go_quiet (fail); try go_wp2)
          go_roundg k1
          case measure => have := HK1.out; omega
          case rel => exact ⟨(wrap64 (x6_1 + (rd t186 x7_1))), (wrap64 (x7_1 + 1)), (by first | rfl | (simp; done) | (simp [*]; done)), (by first | rfl | (simp; done) | (simp [*]; done)), H', ⟨by have := HK1.out; omega⟩, ⟨by (with_reducible repeat (first | apply Kd.R_alloc | apply Kd.R_drewN | apply Kd.R_drew)); exact HO_5.out⟩, ⟨bw HB⟩⟩
        · rw [if_neg c9] at H
          exact absurd H (by simp)
      · rw [if_neg c8] at H
        have c8b0 : decide (x7_1 < (t186.length : Int)) = false := decide_eq_false c8
        clear c8
        replace H := Option.bind_eq_some_iff.mp H
        obtain ⟨⟨t192, t193⟩, A110, H⟩ := H
        replace H : (if x6_1 = 0 then (if t193 = 10 then (if (t192.length : Int) = 0 then ((awardingbodylaw01_awake.f k1).bind fun t196 => (some t196)) else (some false)) else (some false)) else (if t193 = 0 then (awardingbodylaw01_RatioFair.j1 k1 t190 t186 x6_1 t192 ((t192.length : Int) != (t186.length : Int))) else (awardingbodylaw01_RatioFair.j1 k1 t190 t186 x6_1 t192 true))) = some r := H
        have A11 := Aside0.mk A110
        clear A110
        by_cases c12 : x6_1 = 0
        · rw [if_pos c12] at H
          have c12b0 : (x6_1 == 0) = true := beq_iff_eq.mpr c12
          have c12b1 : (x6_1 != 0) = false := bne_eq_false_iff_eq.mpr c12
          clear c12
          by_cases c13 : t193 = 10
          · rw [if_pos c13] at H
            have c13b0 : (t193 == 10) = true := beq_iff_eq.mpr c13
            have c13b1 : (t193 != 10) = false := bne_eq_false_iff_eq.mpr c13
            clear c13
            by_cases c14 : (t192.length : Int) = 0
            · rw [if_pos c14] at H
              have c14b0 : ((t192.length : Int) == 0) = true := beq_iff_eq.mpr c14
              have c14b1 : ((t192.length : Int) != 0) = false := bne_eq_false_iff_eq.mpr c14
              clear c14
              replace H := Option.bind_eq_some_iff.mp H
              obtain ⟨t196, A150, H⟩ := H
              replace H : (some t196) = some r := H
              have A15 := Aside0.mk A150
              clear A150
              obtain rfl := Option.some.inj H
              obtain ⟨Ao16, co16, eo16⟩ := Kd.R_slice HO_5.out
              subst eo16
              go_wp2_with (first | (go_at_call 15; (with_reducible refine (ratio_Apportion.calls t190 _ _ t186 t192 t193 _ ?side1 ?side2 A11.out).mono ?_); (case side1 => repeat (first | exact (Kd.R_reads' HO_5.out).2.2 | (with_reducible refine Kd.C_alloc ?_ _) | (with_reducible refine Kd.C_drewN ?_ _) | (with_reducible refine Kd.C_drew ?_))); (case side2 => exact (Kd.R_reads' HO_5.out).2.1); rintro e w17 ⟨v194, rfl, ho0, hb⟩; have HO195 := Aside0.mk (Kd.R_lower (Kd.R_new' ho0 (Kd.R_lt (by (with_reducible repeat (first | apply Kd.R_alloc | apply Kd.R_drewN | apply Kd.R_drew)); exact HO_5.out))) (below_size (bw HB))); replace HO_5 := Aside0.mk (Kd.R_elder' (by (with_reducible repeat (first | apply Kd.R_alloc | apply Kd.R_drewN | apply Kd.R_drew)); exact HO_5.out) (Kd.R_base ho0) hb); replace HB := wb HB hb; (try clear hb); (try clear hb2); (try clear hk); (try clear hi); (try clear ho0); obtain ⟨Ao18, co18, eo18⟩ := Kd.R_slice HO195.out; subst eo18) | (go_at_call 18; (with_reducible refine (awardingbodylaw01_awake.calls k1  t196 _ A15.out).mono ?_); rintro e w19 ⟨rfl, hb⟩; replace HO_5 := Aside0.mk (Kd.R_below (by (with_reducible repeat (first | apply Kd.R_alloc | apply Kd.R_drewN | apply Kd.R_drew)); exact HO_5.out) hb); replace HO195 := Aside0.mk (Kd.R_below (by (with_reducible repeat (first | apply Kd.R_alloc | apply Kd.R_drewN | apply Kd.R_drew)); exact HO195.out) hb); replace HB := wb HB hb; (try clear hb); (try clear hb2); (try clear hk); (try clear hi)))
              repeat (go_quiet (first | (go_at_call 15; (with_reducible refine (ratio_Apportion.calls t190 _ _ t186 t192 t193 _ ?side1 ?side2 A11.out).mono ?_); (case side1 => repeat (first | exact (Kd.R_reads' HO_5.out).2.2 | (with_reducible refine Kd.C_alloc ?_ _) | (with_reducible refine Kd.C_drewN ?_ _) | (with_reducible refine Kd.C_drew ?_))); (case side2 => exact (Kd.R_reads' HO_5.out).2.1); rintro e w17 ⟨v194, rfl, ho0, hb⟩; have HO195 := Aside0.mk (Kd.R_lower (Kd.R_new' ho0 (Kd.R_lt (by (with_reducible repeat (first | apply Kd.R_alloc | apply Kd.R_drewN | apply Kd.R_drew)); exact HO_5.out))) (below_size (bw HB))); replace HO_5 := Aside0.mk (Kd.R_elder' (by (with_reducible repeat (first | apply Kd.R_alloc | apply Kd.R_drewN | apply Kd.R_drew)); exact HO_5.out) (Kd.R_base ho0) hb); replace HB := wb HB hb; (try clear hb); (try clear hb2); (try clear hk); (try clear hi); (try clear ho0); obtain ⟨Ao18, co18, eo18⟩ := Kd.R_slice HO195.out; subst eo18) | (go_at_call 18; (with_reducible refine (awardingbodylaw01_awake.calls k1  t196 _ A15.out).mono ?_); rintro e w19 ⟨rfl, hb⟩; replace HO_5 := Aside0.mk (Kd.R_below (by (with_reducible repeat (first | apply Kd.R_alloc | apply Kd.R_drewN | apply Kd.R_drew)); exact HO_5.out) hb); replace HO195 := Aside0.mk (Kd.R_below (by (with_reducible repeat (first | apply Kd.R_alloc | apply Kd.R_drewN | apply Kd.R_drew)); exact HO195.out) hb); replace HB := wb HB hb; (try clear hb); (try clear hb2); (try clear hk); (try clear hi))); try go_wp2_with (first | (go_at_call 15; (with_reducible refine (ratio_Apportion.calls t190 _ _ t186 t192 t193 _ ?side1 ?side2 A11.out).mono ?_); (case side1 => repeat (first | exact (Kd.R_reads' HO_5.out).2.2 | (with_reducible refine Kd.C_alloc ?_ _) | (with_reducible refine Kd.C_drewN ?_ _) | (with_reducible refine Kd.C_drew ?_))); (case side2 => exact (Kd.R_reads' HO_5.out).2.1); rintro e w17 ⟨v194, rfl, ho0, hb⟩; have HO195 := Aside0.mk (Kd.R_lower (Kd.R_new' ho0 (Kd.R_lt (by (with_reducible repeat (first | apply Kd.R_alloc | apply Kd.R_drewN | apply Kd.R_drew)); exact HO_5.out))) (below_size (bw HB))); replace HO_5 := Aside0.mk (Kd.R_elder' (by (with_reducible repeat (first | apply Kd.R_alloc | apply Kd.R_drewN | apply Kd.R_drew)); exact HO_5.out) (Kd.R_base ho0) hb); replace HB := wb HB hb; (try clear hb); (try clear hb2); (try clear hk); (try clear hi); (try clear ho0); obtain ⟨Ao18, co18, eo18⟩ := Kd.R_slice HO195.out; subst eo18) | (go_at_call 18; (with_reducible refine (awardingbodylaw01_awake.calls k1  t196 _ A15.out).mono ?_); rintro e w19 ⟨rfl, hb⟩; replace HO_5 := Aside0.mk (Kd.R_below (by (with_reducible repeat (first | apply Kd.R_alloc | apply Kd.R_drewN | apply Kd.R_drew)); exact HO_5.out) hb); replace HO195 := Aside0.mk (Kd.R_below (by (with_reducible repeat (first | apply Kd.R_alloc | apply Kd.R_drewN | apply Kd.R_drew)); exact HO195.out) hb); replace HB := wb HB hb; (try clear hb); (try clear hb2); (try clear hk); (try clear hi))))
              go_ret
              exact ⟨by first | rfl | (simp [errW_none, errW_some] <;> rfl) | (simp [*, errW_none, errW_some] <;> rfl), bw HB⟩
            · rw [if_neg c14] at H
              have c14b0 : ((t192.length : Int) == 0) = false := beq_eq_false_iff_ne.mpr c14
              have c14b1 : ((t192.length : Int) != 0) = true := bne_iff_ne.mpr c14
              have c14b2 : ¬ (t192 = []) := fun h_ => c14 (by rw [h_]; rfl)
              obtain rfl := Option.some.inj H
              obtain ⟨Ao20, co20, eo20⟩ := Kd.R_slice HO_5.out
              subst eo20
              go_wp2_with (first | (go_at_call 15; (with_reducible refine (ratio_Apportion.calls t190 _ _ t186 t192 t193 _ ?side1 ?side2 A11.out).mono ?_); (case side1 => repeat (first | exact (Kd.R_reads' HO_5.out).2.2 | (with_reducible refine Kd.C_alloc ?_ _) | (with_reducible refine Kd.C_drewN ?_ _) | (with_reducible refine Kd.C_drew ?_))); (case side2 => exact (Kd.R_reads' HO_5.out).2.1); rintro e w21 ⟨v194, rfl, ho0, hb⟩; have HO195 := Aside0.mk (Kd.R_lower (Kd.R_new' ho0 (Kd.R_lt (by (with_reducible repeat (first | apply Kd.R_alloc | apply Kd.R_drewN | apply Kd.R_drew)); exact HO_5.out))) (below_size (bw HB))); replace HO_5 := Aside0.mk (Kd.R_elder' (by (with_reducible repeat (first | apply Kd.R_alloc | apply Kd.R_drewN | apply Kd.R_drew)); exact HO_5.out) (Kd.R_base ho0) hb); replace HB := wb HB hb; (try clear hb); (try clear hb2); (try clear hk); (try clear hi); (try clear ho0); obtain ⟨Ao22, co22, eo22⟩ := Kd.R_slice HO195.out; subst eo22))
              repeat (go_quiet (first | (go_at_call 15; (with_reducible refine (ratio_Apportion.calls t190 _ _ t186 t192 t193 _ ?side1 ?side2 A11.out).mono ?_); (case side1 => repeat (first | exact (Kd.R_reads' HO_5.out).2.2 | (with_reducible refine Kd.C_alloc ?_ _) | (with_reducible refine Kd.C_drewN ?_ _) | (with_reducible refine Kd.C_drew ?_))); (case side2 => exact (Kd.R_reads' HO_5.out).2.1); rintro e w21 ⟨v194, rfl, ho0, hb⟩; have HO195 := Aside0.mk (Kd.R_lower (Kd.R_new' ho0 (Kd.R_lt (by (with_reducible repeat (first | apply Kd.R_alloc | apply Kd.R_drewN | apply Kd.R_drew)); exact HO_5.out))) (below_size (bw HB))); replace HO_5 := Aside0.mk (Kd.R_elder' (by (with_reducible repeat (first | apply Kd.R_alloc | apply Kd.R_drewN | apply Kd.R_drew)); exact HO_5.out) (Kd.R_base ho0) hb); replace HB := wb HB hb; (try clear hb); (try clear hb2); (try clear hk); (try clear hi); (try clear ho0); obtain ⟨Ao22, co22, eo22⟩ := Kd.R_slice HO195.out; subst eo22)); try go_wp2_with (first | (go_at_call 15; (with_reducible refine (ratio_Apportion.calls t190 _ _ t186 t192 t193 _ ?side1 ?side2 A11.out).mono ?_); (case side1 => repeat (first | exact (Kd.R_reads' HO_5.out).2.2 | (with_reducible refine Kd.C_alloc ?_ _) | (with_reducible refine Kd.C_drewN ?_ _) | (with_reducible refine Kd.C_drew ?_))); (case side2 => exact (Kd.R_reads' HO_5.out).2.1); rintro e w21 ⟨v194, rfl, ho0, hb⟩; have HO195 := Aside0.mk (Kd.R_lower (Kd.R_new' ho0 (Kd.R_lt (by (with_reducible repeat (first | apply Kd.R_alloc | apply Kd.R_drewN | apply Kd.R_drew)); exact HO_5.out))) (below_size (bw HB))); replace HO_5 := Aside0.mk (Kd.R_elder' (by (with_reducible repeat (first | apply Kd.R_alloc | apply Kd.R_drewN | apply Kd.R_drew)); exact HO_5.out) (Kd.R_base ho0) hb); replace HB := wb HB hb; (try clear hb); (try clear hb2); (try clear hk); (try clear hi); (try clear ho0); obtain ⟨Ao22, co22, eo22⟩ := Kd.R_slice HO195.out; subst eo22)))
              go_ret
              exact ⟨by first | rfl | (simp [errW_none, errW_some] <;> rfl) | (simp [*, errW_none, errW_some] <;> rfl), bw HB⟩
          · rw [if_neg c13] at H
            have c13b0 : (t193 == 10) = false := beq_eq_false_iff_ne.mpr c13
            have c13b1 : (t193 != 10) = true := bne_iff_ne.mpr c13
            obtain rfl := Option.some.inj H
            obtain ⟨Ao23, co23, eo23⟩ := Kd.R_slice HO_5.out
            subst eo23
            go_wp2_with (first | (go_at_call 15; (with_reducible refine (ratio_Apportion.calls t190 _ _ t186 t192 t193 _ ?side1 ?side2 A11.out).mono ?_); (case side1 => repeat (first | exact (Kd.R_reads' HO_5.out).2.2 | (with_reducible refine Kd.C_alloc ?_ _) | (with_reducible refine Kd.C_drewN ?_ _) | (with_reducible refine Kd.C_drew ?_))); (case side2 => exact (Kd.R_reads' HO_5.out).2.1); rintro e w24 ⟨v194, rfl, ho0, hb⟩; have HO195 := Aside0.mk (Kd.R_lower (Kd.R_new' ho0 (Kd.R_lt (by (with_reducible repeat (first | apply Kd.R_alloc | apply Kd.R_drewN | apply Kd.R_drew)); exact HO_5.out))) (below_size (bw HB))); replace HO_5 := Aside0.mk (Kd.R_elder' (by (with_reducible repeat (first | apply Kd.R_alloc | apply Kd.R_drewN | apply Kd.R_drew)); exact HO_5.out) (Kd.R_base ho0) hb); replace HB := wb HB hb; (try clear hb); (try clear hb2); (try clear hk); (try clear hi); (try clear ho0)))
            repeat (go_quiet (first | (go_at_call 15; (with_reducible refine (ratio_Apportion.calls t190 _ _ t186 t192 t193 _ ?side1 ?side2 A11.out).mono ?_); (case side1 => repeat (first | exact (Kd.R_reads' HO_5.out).2.2 | (with_reducible refine Kd.C_alloc ?_ _) | (with_reducible refine Kd.C_drewN ?_ _) | (with_reducible refine Kd.C_drew ?_))); (case side2 => exact (Kd.R_reads' HO_5.out).2.1); rintro e w24 ⟨v194, rfl, ho0, hb⟩; have HO195 := Aside0.mk (Kd.R_lower (Kd.R_new' ho0 (Kd.R_lt (by (with_reducible repeat (first | apply Kd.R_alloc | apply Kd.R_drewN | apply Kd.R_drew)); exact HO_5.out))) (below_size (bw HB))); replace HO_5 := Aside0.mk (Kd.R_elder' (by (with_reducible repeat (first | apply Kd.R_alloc | apply Kd.R_drewN | apply Kd.R_drew)); exact HO_5.out) (Kd.R_base ho0) hb); replace HB := wb HB hb; (try clear hb); (try clear hb2); (try clear hk); (try clear hi); (try clear ho0))); try go_wp2_with (first | (go_at_call 15; (with_reducible refine (ratio_Apportion.calls t190 _ _ t186 t192 t193 _ ?side1 ?side2 A11.out).mono ?_); (case side1 => repeat (first | exact (Kd.R_reads' HO_5.out).2.2 | (with_reducible refine Kd.C_alloc ?_ _) | (with_reducible refine Kd.C_drewN ?_ _) | (with_reducible refine Kd.C_drew ?_))); (case side2 => exact (Kd.R_reads' HO_5.out).2.1); rintro e w24 ⟨v194, rfl, ho0, hb⟩; have HO195 := Aside0.mk (Kd.R_lower (Kd.R_new' ho0 (Kd.R_lt (by (with_reducible repeat (first | apply Kd.R_alloc | apply Kd.R_drewN | apply Kd.R_drew)); exact HO_5.out))) (below_size (bw HB))); replace HO_5 := Aside0.mk (Kd.R_elder' (by (with_reducible repeat (first | apply Kd.R_alloc | apply Kd.R_drewN | apply Kd.R_drew)); exact HO_5.out) (Kd.R_base ho0) hb); replace HB := wb HB hb; (try clear hb); (try clear hb2); (try clear hk); (try clear hi); (try clear ho0))))
            go_ret
            exact ⟨by first | rfl | (simp [errW_none, errW_some] <;> rfl) | (simp [*, errW_none, errW_some] <;> rfl), bw HB⟩
        · rw [if_neg c12] at H
          have c12b0 : (x6_1 == 0) = false := beq_eq_false_iff_ne.mpr c12
          have c12b1 : (x6_1 != 0) = true := bne_iff_ne.mpr c12
          have HC25 := Aside0.mk H
          clear H
          obtain ⟨Ao26, co26, eo26⟩ := Kd.R_slice HO_5.out
          subst eo26
          go_upto_region 11 with (first | (go_at_call 15; (with_reducible refine (ratio_Apportion.calls t190 _ _ t186 t192 t193 _ ?side1 ?side2 A11.out).mono ?_); (case side1 => repeat (first | exact (Kd.R_reads' HO_5.out).2.2 | (with_reducible refine Kd.C_alloc ?_ _) | (with_reducible refine Kd.C_drewN ?_ _) | (with_reducible refine Kd.C_drew ?_))); (case side2 => exact (Kd.R_reads' HO_5.out).2.1); rintro e w27 ⟨v194, rfl, ho0, hb⟩; have HO195 := Aside0.mk (Kd.R_lower (Kd.R_new' ho0 (Kd.R_lt (by (with_reducible repeat (first | apply Kd.R_alloc | apply Kd.R_drewN | apply Kd.R_drew)); exact HO_5.out))) (below_size (bw HB))); replace HO_5 := Aside0.mk (Kd.R_elder' (by (with_reducible repeat (first | apply Kd.R_alloc | apply Kd.R_drewN | apply Kd.R_drew)); exact HO_5.out) (Kd.R_base ho0) hb); replace HB := wb HB hb; (try clear hb); (try clear hb2); (try clear hk); (try clear hi); (try clear ho0)))
          repeat (go_quiet (first | (go_at_call 15; (with_reducible refine (ratio_Apportion.calls t190 _ _ t186 t192 t193 _ ?side1 ?side2 A11.out).mono ?_); (case side1 => repeat (first | exact (Kd.R_reads' HO_5.out).2.2 | (with_reducible refine Kd.C_alloc ?_ _) | (with_reducible refine Kd.C_drewN ?_ _) | (with_reducible refine Kd.C_drew ?_))); (case side2 => exact (Kd.R_reads' HO_5.out).2.1); rintro e w27 ⟨v194, rfl, ho0, hb⟩; have HO195 := Aside0.mk (Kd.R_lower (Kd.R_new' ho0 (Kd.R_lt (by (with_reducible repeat (first | apply Kd.R_alloc | apply Kd.R_drewN | apply Kd.R_drew)); exact HO_5.out))) (below_size (bw HB))); replace HO_5 := Aside0.mk (Kd.R_elder' (by (with_reducible repeat (first | apply Kd.R_alloc | apply Kd.R_drewN | apply Kd.R_drew)); exact HO_5.out) (Kd.R_base ho0) hb); replace HB := wb HB hb; (try clear hb); (try clear hb2); (try clear hk); (try clear hi); (try clear ho0))); go_upto_region 11 with (first | (go_at_call 15; (with_reducible refine (ratio_Apportion.calls t190 _ _ t186 t192 t193 _ ?side1 ?side2 A11.out).mono ?_); (case side1 => repeat (first | exact (Kd.R_reads' HO_5.out).2.2 | (with_reducible refine Kd.C_alloc ?_ _) | (with_reducible refine Kd.C_drewN ?_ _) | (with_reducible refine Kd.C_drew ?_))); (case side2 => exact (Kd.R_reads' HO_5.out).2.1); rintro e w27 ⟨v194, rfl, ho0, hb⟩; have HO195 := Aside0.mk (Kd.R_lower (Kd.R_new' ho0 (Kd.R_lt (by (with_reducible repeat (first | apply Kd.R_alloc | apply Kd.R_drewN | apply Kd.R_drew)); exact HO_5.out))) (below_size (bw HB))); replace HO_5 := Aside0.mk (Kd.R_elder' (by (with_reducible repeat (first | apply Kd.R_alloc | apply Kd.R_drewN | apply Kd.R_drew)); exact HO_5.out) (Kd.R_base ho0) hb); replace HB := wb HB hb; (try clear hb); (try clear hb2); (try clear hk); (try clear hi); (try clear ho0))))
          (try simp only [Act.put, List.setIfInBounds_toArray, List.set_cons_zero, List.set_cons_succ])
          go_cut [56] (fun v56 wc => ∃ (kq : Nat) (x56_24 : Bool), v56 = .bool x56_24 ∧ Aside0 (awardingbodylaw01_RatioFair.j1 kq t190 t186 x6_1 t192 x56_24 = some r) ∧ Aside0 (kq ≤ k1) ∧ Aside0 (Kd.R (Kd.int .i64) 3 wc w.heap.size (fun k_ => some k_ ≠ (v194 : Value).ownBlock) (.slice Ao26 t186.length co26) t186) ∧ Aside0 (Kd.R (Kd.int .i64) 3 wc w.heap.size (fun k_ => some k_ ≠ ((.slice Ao26 t186.length co26) : Value).ownBlock) v194 t192) ∧ Aside0 (Below w.heap.size w wc))
          case first =>
            have H := HC25.out
            clear HC25
            by_cases c28 : t193 = 0
            · rw [if_pos c28] at H
              have c28b0 : (t193 == 0) = true := beq_iff_eq.mpr c28
              have c28b1 : (t193 != 0) = false := bne_eq_false_iff_eq.mpr c28
              clear c28
              (first | rw [c28b0] | (simp only [i64_w, i32_w]; rw [c28b0]) | skip)
              have H' := Aside0.mk H
              clear H
              obtain ⟨Ao29, co29, eo29⟩ := Kd.R_slice HO195.out
              subst eo29
              go_wp2
              repeat (go_quiet (fail); try go_wp2)
              go_meet
              case rel => exact ⟨_, (((t192.length : Int) != (t186.length : Int))), (by first | rfl | (simp; done) | (simp [*]; done)), H', ⟨by have := HK1.out; first | omega | exact Nat.le_refl _⟩, ⟨by (with_reducible repeat (first | apply Kd.R_alloc | apply Kd.R_drewN | apply Kd.R_drew)); exact Kd.R_mono HO_5.out (fun _ hk => hk.2)⟩, ⟨by (with_reducible repeat (first | apply Kd.R_alloc | apply Kd.R_drewN | apply Kd.R_drew)); exact Kd.R_mono HO195.out (fun _ hk => hk.2)⟩, ⟨bw HB⟩⟩
            · rw [if_neg c28] at H
              have c28b0 : (t193 == 0) = false := beq_eq_false_iff_ne.mpr c28
              have c28b1 : (t193 != 0) = true := bne_iff_ne.mpr c28
              (first | rw [c28b0] | (simp only [i64_w, i32_w]; rw [c28b0]) | skip)
              have H' := Aside0.mk H
              clear H
              go_wp2
              repeat (go_quiet (fail); try go_wp2)
              go_meet
              case rel => exact ⟨_, (true), (by first | rfl | (simp; done) | (simp [*]; done)), H', ⟨by have := HK1.out; first | omega | exact Nat.le_refl _⟩, ⟨by (with_reducible repeat (first | apply Kd.R_alloc | apply Kd.R_drewN | apply Kd.R_drew)); exact Kd.R_mono HO_5.out (fun _ hk => hk.2)⟩, ⟨by (with_reducible repeat (first | apply Kd.R_alloc | apply Kd.R_drewN | apply Kd.R_drew)); exact Kd.R_mono HO195.out (fun _ hk => hk.2)⟩, ⟨bw HB⟩⟩
          case rest =>
            clear HC25
            try clear c1
            try clear p1
            try clear q1
            try clear hx1
            try clear c2
            try clear p2
            try clear c4
            try clear p6
            try clear c8
            try clear c8b0
            try clear c9
            try clear c9b0
            try clear c12
            try clear c12b0
            try clear c12b1
            try clear c13
            try clear c13b0
            try clear c13b1
            try clear c14
            try clear c14b0
            try clear c14b1
            try clear c14b2
            try clear p19
            try clear q19
            try clear hx19
            try clear c28
            try clear c28b0
            try clear c28b1
            try clear hx191_0
            try clear p191
            try clear p2
            try clear q191
            obtain ⟨kq, x56_24, rfl, HA, HJ24, HO_5, HO_8, HB⟩ := hcut
            cases kq with
            | zero => exact absurd HA.out (by simp [awardingbodylaw01_RatioFair.j1])
            | succ kj24 =>
              have H := HA.out
              clear HA
              simp only [awardingbodylaw01_RatioFair.j1] at H
              by_cases c30 : x56_24 = true
              · subst c30
                have H1 : (some false) = some r := by rw [if_pos rfl] at H; exact H
                clear H
                have H := H1
                clear H1
                obtain rfl := Option.some.inj H
                go_wp2
                repeat (go_quiet (fail); try go_wp2)
                go_ret
                exact ⟨by first | rfl | (simp [errW_none, errW_some] <;> rfl) | (simp [*, errW_none, errW_some] <;> rfl), bw HB⟩
              · replace c30 := Bool.eq_false_iff.mpr c30
                subst c30
                have H1 : (awardingbodylaw01_RatioFair.l1 kj24 t190 t186 x6_1 t192 t190 0) = some r := by rw [if_neg (show ¬ (false = true) by decide)] at H; exact H
                clear H
                have H := H1
                clear H1
                have H' := Aside0.mk H
                clear H
                go_wp2
                repeat (go_quiet (fail); try go_wp2)
                (try simp only [Act.put, List.setIfInBounds_toArray, List.set_cons_zero, List.set_cons_succ])
                go_loopg [10, 11] kj24 (fun kq v10 v11 w' => ∃ (x10_3 : Int) (x11_3 : Int), v10 = .int .i64 x10_3 ∧ v11 = .int .i64 x11_3 ∧ Aside0 (awardingbodylaw01_RatioFair.l1 kq t190 t186 x6_1 t192 x10_3 x11_3 = some r) ∧ Aside0 (kq ≤ kj24) ∧ Aside0 (Kd.R (Kd.int .i64) 3 w' w.heap.size (fun k_ => some k_ ≠ (v194 : Value).ownBlock) (.slice Ao26 t186.length co26) t186) ∧ Aside0 (Kd.R (Kd.int .i64) 3 w' w.heap.size (fun k_ => some k_ ≠ ((.slice Ao26 t186.length co26) : Value).ownBlock) v194 t192) ∧ Aside0 (Below w.heap.size w w'))
                case atStart => exact ⟨(t190), (0), (by first | rfl | (simp; done) | (simp [*]; done)), (by first | rfl | (simp; done) | (simp [*]; done)), H', ⟨Nat.le_refl _⟩, ⟨by (with_reducible repeat (first | apply Kd.R_alloc | apply Kd.R_drewN | apply Kd.R_drew)); exact HO_5.out⟩, ⟨by (with_reducible repeat (first | apply Kd.R_alloc | apply Kd.R_drewN | apply Kd.R_drew)); exact HO_8.out⟩, ⟨bw HB⟩⟩
                case round =>
                  clear H'
                  try clear c1
                  try clear p1
                  try clear q1
                  try clear hx1
                  try clear c2
                  try clear p2
                  try clear c3
                  try clear c4
                  try clear p6
                  try clear c8
                  try clear c8b0
                  try clear c9
                  try clear c9b0
                  try clear c12
                  try clear c12b0
                  try clear c12b1
                  try clear c13
                  try clear c13b0
                  try clear c13b1
                  try clear c14
                  try clear c14b0
                  try clear c14b1
                  try clear c14b2
                  try clear p19
                  try clear q19
                  try clear hx19
                  try clear c28
                  try clear c28b0
                  try clear c28b1
                  try clear c30
                  try clear hx191_0
                  try clear p1
                  try clear p19
                  try clear p191
                  try clear p2
                  try clear p6
                  try clear q1
                  try clear q19
                  try clear q191
                  obtain ⟨x10_3, x11_3, rfl, rfl, HA, HK3, HO_5, HO_8, HB⟩ := hrel
                  cases gk with
                  | zero => exact absurd HA.out (by simp [awardingbodylaw01_RatioFair.l1])
                  | succ k3 =>
                    have H := HA.out
                    clear HA
                    simp only [awardingbodylaw01_RatioFair.l1] at H
                    by_cases c31 : x11_3 < (t186.length : Int)
                    · rw [if_pos c31] at H
                      have c31b0 : decide (x11_3 < (t186.length : Int)) = true := decide_eq_true c31
                      clear c31
                      by_cases c32 : 0 ≤ x11_3
                      · rw [if_pos c32] at H
                        have c32b0 : decide (0 ≤ x11_3) = true := decide_eq_true c32
                        clear c32
                        by_cases c33 : x11_3 < (t192.length : Int)
                        · rw [if_pos c33] at H
                          have c33b0 : decide (x11_3 < (t192.length : Int)) = true := decide_eq_true c33
                          clear c33
                          have HC34 := Aside0.mk H
                          clear H
                          obtain ⟨Ao35, co35, eo35⟩ := Kd.R_slice HO_8.out
                          subst eo35
                          have p198 : 0 ≤ (x11_3 : Int) := of_decide_eq_true (by first | (with_reducible assumption) | assumption)
                          have q198 : x11_3 < (t192.length : Int) := of_decide_eq_true (by first | (with_reducible assumption) | assumption)
                          obtain ⟨ad198, e198, hx198_0⟩ := Kd.at_int (Kd.R_reads' HO_8.out).2.2 x11_3 p198 q198
                          cases e198
                          replace p198 := eq_true p198
                          replace q198 := eq_true q198
                          go_upto_region 18 with (fail)
                          repeat (go_quiet (fail); go_upto_region 18 with (fail))
                          go_cut [101] (fun v101 wc => ∃ (kq : Nat) (x101_33 : Bool), v101 = .bool x101_33 ∧ Aside0 (awardingbodylaw01_RatioFair.j3 kq t190 t186 x6_1 t192 (wrap64 (x10_3 - (rd t192 x11_3))) x11_3 x101_33 = some r) ∧ Aside0 (kq ≤ k3) ∧ Aside0 (Kd.R (Kd.int .i64) 3 wc w.heap.size (fun k_ => some k_ ≠ ((.slice (some ad198) t192.length co35) : Value).ownBlock) (.slice Ao26 t186.length co26) t186) ∧ Aside0 (Kd.R (Kd.int .i64) 3 wc w.heap.size (fun k_ => some k_ ≠ ((.slice Ao26 t186.length co26) : Value).ownBlock) (.slice (some ad198) t192.length co35) t192) ∧ Aside0 (Below w.heap.size w wc))
                          case first =>
                            have H := HC34.out
                            clear HC34
                            by_cases c36 : (wrap64 ((rd t192 x11_3) * x6_1)) ≤ (wrap64 ((wrap64 (t190 * (rd t186 x11_3))) - x6_1))
                            · rw [if_pos c36] at H
                              have c36b0 : decide ((wrap64 ((rd t192 x11_3) * x6_1)) ≤ (wrap64 ((wrap64 (t190 * (rd t186 x11_3))) - x6_1))) = true := decide_eq_true c36
                              clear c36
                              (first | rw [c36b0] | (simp only [i64_w, i32_w]; rw [c36b0]) | skip)
                              have H' := Aside0.mk H
                              clear H
                              have p199 : 0 ≤ (x11_3 : Int) := of_decide_eq_true (by first | (with_reducible assumption) | assumption)
                              have q199 : x11_3 < (t192.length : Int) := of_decide_eq_true (by first | (with_reducible assumption) | assumption)
                              obtain ⟨ad199, e199, hx199_0⟩ := Kd.at_int (Kd.R_reads' HO_8.out).2.2 x11_3 p199 q199
                              obtain rfl : ad198 = ad199 := (by injection e199)
                              replace p199 := eq_true p199
                              replace q199 := eq_true q199
                              have p200 : 0 ≤ (x11_3 : Int) := of_decide_eq_true (by first | (with_reducible assumption) | assumption)
                              have q200 : x11_3 < (t186.length : Int) := of_decide_eq_true (by first | (with_reducible assumption) | assumption)
                              obtain ⟨ad200, e200, hx200_0⟩ := Kd.at_int (Kd.R_reads' HO_5.out).2.2 x11_3 p200 q200
                              cases e200
                              replace p200 := eq_true p200
                              replace q200 := eq_true q200
                              go_wp2
                              repeat (go_quiet (fail); try go_wp2)
                              go_meet
                              case rel => exact ⟨_, (true), (by first | rfl | (simp; done) | (simp [*]; done)), H', ⟨by have := HK1.out; have := HJ24.out; have := HK3.out; first | omega | exact Nat.le_refl _⟩, ⟨by (with_reducible repeat (first | apply Kd.R_alloc | apply Kd.R_drewN | apply Kd.R_drew)); exact HO_5.out⟩, ⟨by (with_reducible repeat (first | apply Kd.R_alloc | apply Kd.R_drewN | apply Kd.R_drew)); exact HO_8.out⟩, ⟨bw HB⟩⟩
                            · rw [if_neg c36] at H
                              have c36b0 : decide ((wrap64 ((rd t192 x11_3) * x6_1)) ≤ (wrap64 ((wrap64 (t190 * (rd t186 x11_3))) - x6_1))) = false := decide_eq_false c36
                              clear c36
                              (first | rw [c36b0] | (simp only [i64_w, i32_w]; rw [c36b0]) | skip)
                              have H' := Aside0.mk H
                              clear H
                              have p199 : 0 ≤ (x11_3 : Int) := of_decide_eq_true (by first | (with_reducible assumption) | assumption)
                              have q199 : x11_3 < (t192.length : Int) := of_decide_eq_true (by first | (with_reducible assumption) | assumption)
                              obtain ⟨ad199, e199, hx199_0⟩ := Kd.at_int (Kd.R_reads' HO_8.out).2.2 x11_3 p199 q199
                              obtain rfl : ad198 = ad199 := (by injection e199)
                              replace p199 := eq_true p199
                              replace q199 := eq_true q199
                              have p200 : 0 ≤ (x11_3 : Int) := of_decide_eq_true (by first | (with_reducible assumption) | assumption)
                              have q200 : x11_3 < (t186.length : Int) := of_decide_eq_true (by first | (with_reducible assumption) | assumption)
                              obtain ⟨ad200, e200, hx200_0⟩ := Kd.at_int (Kd.R_reads' HO_5.out).2.2 x11_3 p200 q200
                              cases e200
                              replace p200 := eq_true p200
                              replace q200 := eq_true q200
                              have p201 : 0 ≤ (x11_3 : Int) := of_decide_eq_true (by first | (with_reducible assumption) | assumption)
                              have q201 : x11_3 < (t192.length : Int) := of_decide_eq_true (by first | (with_reducible assumption) | assumption)
                              obtain ⟨ad201, e201, hx201_0⟩ := Kd.at_int (Kd.R_reads' HO_8.out).2.2 x11_3 p201 q201
                              obtain rfl : ad198 = ad201 := (by injection e201)
                              replace p201 := eq_true p201
                              replace q201 := eq_true q201
                              have p202 : 0 ≤ (x11_3 : Int) := of_decide_eq_true (by first | (with_reducible assumption) | assumption)
                              have q202 : x11_3 < (t186.length : Int) := of_decide_eq_true (by first | (with_reducible assumption) | assumption)
                              obtain ⟨ad202, e202, hx202_0⟩ := Kd.at_int (Kd.R_reads' HO_5.out).2.2 x11_3 p202 q202
                              obtain rfl : ad200 = ad202 := (by injection e202)
                              replace p202 := eq_true p202
                              replace q202 := eq_true q202
                              go_wp2
                              repeat (go_quiet (fail); try go_wp2)
                              go_meet
                              case rel => exact ⟨_, (decide ((wrap64 ((rd t192 x11_3) * x6_1)) ≥ (wrap64 ((wrap64 (t190 * (rd t186 x11_3))) + x6_1)))), (by first | rfl | (simp; done) | (simp [*]; done)), H', ⟨by have := HK1.out; have := HJ24.out; have := HK3.out; first | omega | exact Nat.le_refl _⟩, ⟨by (with_reducible repeat (first | apply Kd.R_alloc | apply Kd.R_drewN | apply Kd.R_drew)); exact HO_5.out⟩, ⟨by (with_reducible repeat (first | apply Kd.R_alloc | apply Kd.R_drewN | apply Kd.R_drew)); exact HO_8.out⟩, ⟨bw HB⟩⟩
                          case rest =>
                            clear HC34
                            try clear c1
                            try clear p1
                            try clear q1
                            try clear hx1
                            try clear c2
                            try clear p2
                            try clear q2
                            try clear hx2
                            try clear c3
                            try clear c4
                            try clear p6
                            try clear c8
                            try clear c8b0
                            try clear c9
                            try clear c9b0
                            try clear c12
                            try clear c12b0
                            try clear c12b1
                            try clear c13
                            try clear c13b0
                            try clear c13b1
                            try clear c14
                            try clear c14b0
                            try clear c14b1
                            try clear c14b2
                            try clear p19
                            try clear q19
                            try clear hx19
                            try clear p20
                            try clear q20
                            try clear hx20
                            try clear c28
                            try clear c28b0
                            try clear c28b1
                            try clear c30
                            try clear c31
                            try clear c31b0
                            try clear c32
                            try clear c32b0
                            try clear c33
                            try clear c33b0
                            try clear c36
                            try clear c36b0
                            try clear hx191_0
                            try clear hx198_0
                            try clear hx199_0
                            try clear hx200_0
                            try clear hx201_0
                            try clear hx202_0
                            try clear p1
                            try clear p19
                            try clear p191
                            try clear p198
                            try clear p199
                            try clear p2
                            try clear p200
                            try clear p201
                            try clear p202
                            try clear p6
                            try clear q1
                            try clear q19
                            try clear q191
                            try clear q198
                            try clear q199
                            try clear q200
                            try clear q201
                            try clear q202
                            obtain ⟨kq, x101_33, rfl, HA, HJ33, HO_5, HO_8, HB⟩ := hcut
                            cases kq with
                            | zero => exact absurd HA.out (by simp [awardingbodylaw01_RatioFair.j3])
                            | succ kj33 =>
                              have H := HA.out
                              clear HA
                              simp only [awardingbodylaw01_RatioFair.j3] at H
                              by_cases c37 : x101_33 = true
                              · subst c37
                                have H1 : (some false) = some r := by rw [if_pos rfl] at H; exact H
                                clear H
                                have H := H1
                                clear H1
                                obtain rfl := Option.some.inj H
                                go_wp2
                                repeat (go_quiet (fail); try go_wp2)
                                go_ret
                                exact ⟨by first | rfl | (simp [errW_none, errW_some] <;> rfl) | (simp [*, errW_none, errW_some] <;> rfl), bw HB⟩
                              · replace c37 := Bool.eq_false_iff.mpr c37
                                subst c37
                                have H1 : (awardingbodylaw01_RatioFair.l2 kj33 t190 t186 x6_1 t192 (wrap64 (x10_3 - (rd t192 x11_3))) x11_3 0) = some r := by rw [if_neg (show ¬ (false = true) by decide)] at H; exact H
                                clear H
                                have H := H1
                                clear H1
                                have H' := Aside0.mk H
                                clear H
                                go_wp2
                                repeat (go_quiet (fail); try go_wp2)
                                (try simp only [Act.put, List.setIfInBounds_toArray, List.set_cons_zero, List.set_cons_succ])
                                go_loopg [12] kj33 (fun kq v12 w' => ∃ (x12_5 : Int), v12 = .int .i64 x12_5 ∧ Aside0 (awardingbodylaw01_RatioFair.l2 kq t190 t186 x6_1 t192 (wrap64 (x10_3 - (rd t192 x11_3))) x11_3 x12_5 = some r) ∧ Aside0 (kq ≤ kj33) ∧ Aside0 (Kd.R (Kd.int .i64) 3 w' w.heap.size (fun k_ => some k_ ≠ ((.slice (some ad198) t192.length co35) : Value).ownBlock) (.slice Ao26 t186.length co26) t186) ∧ Aside0 (Kd.R (Kd.int .i64) 3 w' w.heap.size (fun k_ => some k_ ≠ ((.slice Ao26 t186.length co26) : Value).ownBlock) (.slice (some ad198) t192.length co35) t192) ∧ Aside0 (Below w.heap.size w w'))
                                case atStart => exact ⟨(0), (by first | rfl | (simp; done) | (simp [*]; done)), H', ⟨Nat.le_refl _⟩, ⟨by (with_reducible repeat (first | apply Kd.R_alloc | apply Kd.R_drewN | apply Kd.R_drew)); exact HO_5.out⟩, ⟨by (with_reducible repeat (first | apply Kd.R_alloc | apply Kd.R_drewN | apply Kd.R_drew)); exact HO_8.out⟩, ⟨bw HB⟩⟩
                                case round =>
                                  clear H'
                                  try clear c1
                                  try clear p1
                                  try clear q1
                                  try clear hx1
                                  try clear c2
                                  try clear p2
                                  try clear q2
                                  try clear hx2
                                  try clear c3
                                  try clear c4
                                  try clear p6
                                  try clear c8
                                  try clear c8b0
                                  try clear c9
                                  try clear c9b0
                                  try clear c12
                                  try clear c12b0
                                  try clear c12b1
                                  try clear c13
                                  try clear c13b0
                                  try clear c13b1
                                  try clear c14
                                  try clear c14b0
                                  try clear c14b1
                                  try clear c14b2
                                  try clear p19
                                  try clear q19
                                  try clear hx19
                                  try clear p20
                                  try clear q20
                                  try clear hx20
                                  try clear c28
                                  try clear c28b0
                                  try clear c28b1
                                  try clear c30
                                  try clear c31
                                  try clear c31b0
                                  try clear c32
                                  try clear c32b0
                                  try clear c33
                                  try clear c33b0
                                  try clear c36
                                  try clear c36b0
                                  try clear c37
                                  try clear hx191_0
                                  try clear hx198_0
                                  try clear hx199_0
                                  try clear hx200_0
                                  try clear hx201_0
                                  try clear hx202_0
                                  try clear p1
                                  try clear p19
                                  try clear p191
                                  try clear p198
                                  try clear p199
                                  try clear p2
                                  try clear p20
                                  try clear p200
                                  try clear p201
                                  try clear p202
                                  try clear p6
                                  try clear q1
                                  try clear q19
                                  try clear q191
                                  try clear q198
                                  try clear q199
                                  try clear q2
                                  try clear q20
                                  try clear q200
                                  try clear q201
                                  try clear q202
                                  obtain ⟨x12_5, rfl, HA, HK5, HO_5, HO_8, HB⟩ := hrel
                                  cases gk with
                                  | zero => exact absurd HA.out (by simp [awardingbodylaw01_RatioFair.l2])
                                  | succ k5 =>
                                    have H := HA.out
                                    clear HA
                                    simp only [awardingbodylaw01_RatioFair.l2] at H
                                    by_cases c38 : x12_5 < (t186.length : Int)
                                    · rw [if_pos c38] at H
                                      have c38b0 : decide (x12_5 < (t186.length : Int)) = true := decide_eq_true c38
                                      clear c38
                                      by_cases c39 : 0 ≤ x11_3
                                      · rw [if_pos c39] at H
                                        have c39b0 : decide (0 ≤ x11_3) = true := decide_eq_true c39
                                        clear c39
                                        by_cases c40 : x11_3 < (t186.length : Int)
                                        · rw [if_pos c40] at H
                                          have c40b0 : decide (x11_3 < (t186.length : Int)) = true := decide_eq_true c40
                                          clear c40
                                          by_cases c41 : 0 ≤ x12_5
                                          · rw [if_pos c41] at H
                                            have c41b0 : decide (0 ≤ x12_5) = true := decide_eq_true c41
                                            clear c41
                                            by_cases c42 : (rd t186 x11_3) > (rd t186 x12_5)
                                            · rw [if_pos c42] at H
                                              have c42b0 : decide ((rd t186 x12_5) < (rd t186 x11_3)) = true := decide_eq_true c42
                                              clear c42
                                              by_cases c43 : x11_3 < (t192.length : Int)
                                              · rw [if_pos c43] at H
                                                have c43b0 : decide (x11_3 < (t192.length : Int)) = true := decide_eq_true c43
                                                clear c43
                                                by_cases c44 : x12_5 < (t192.length : Int)
                                                · rw [if_pos c44] at H
                                                  have c44b0 : decide (x12_5 < (t192.length : Int)) = true := decide_eq_true c44
                                                  clear c44
                                                  by_cases c45 : (rd t192 x11_3) < (rd t192 x12_5)
                                                  · rw [if_pos c45] at H
                                                    have c45b0 : decide ((rd t192 x11_3) < (rd t192 x12_5)) = true := decide_eq_true c45
                                                    clear c45
                                                    obtain rfl := Option.some.inj H
                                                    have p203 : 0 ≤ (x11_3 : Int) := of_decide_eq_true (by first | (with_reducible assumption) | assumption)
                                                    have q203 : x11_3 < (t186.length : Int) := of_decide_eq_true (by first | (with_reducible assumption) | assumption)
                                                    obtain ⟨ad203, e203, hx203_0⟩ := Kd.at_int (Kd.R_reads' HO_5.out).2.2 x11_3 p203 q203
                                                    cases e203
                                                    replace p203 := eq_true p203
                                                    replace q203 := eq_true q203
                                                    have p204 : 0 ≤ (x12_5 : Int) := of_decide_eq_true (by first | (with_reducible assumption) | assumption)
                                                    have q204 : x12_5 < (t186.length : Int) := of_decide_eq_true (by first | (with_reducible assumption) | assumption)
                                                    obtain ⟨ad204, e204, hx204_0⟩ := Kd.at_int (Kd.R_reads' HO_5.out).2.2 x12_5 p204 q204
                                                    obtain rfl : ad203 = ad204 := (by injection e204)
                                                    replace p204 := eq_true p204
                                                    replace q204 := eq_true q204
                                                    have p205 : 0 ≤ (x11_3 : Int) := of_decide_eq_true (by first | (with_reducible assumption) | assumption)
                                                    have q205 : x11_3 < (t192.length : Int) := of_decide_eq_true (by first | (with_reducible assumption) | assumption)
                                                    obtain ⟨ad205, e205, hx205_0⟩ := Kd.at_int (Kd.R_reads' HO_8.out).2.2 x11_3 p205 q205
                                                    obtain rfl : ad198 = ad205 := (by injection e205)
                                                    replace p205 := eq_true p205
                                                    replace q205 := eq_true q205
                                                    have p206 : 0 ≤ (x12_5 : Int) := of_decide_eq_true (by first | (with_reducible assumption) | assumption)
                                                    have q206 : x12_5 < (t192.length : Int) := of_decide_eq_true (by first | (with_reducible assumption) | assumption)
                                                    obtain ⟨ad206, e206, hx206_0⟩ := Kd.at_int (Kd.R_reads' HO_8.out).2.2 x12_5 p206 q206
                                                    obtain rfl : ad198 = ad206 := (by injection e206)
                                                    replace p206 := eq_true p206
                                                    replace q206 := eq_true q206
                                                    go_wp2
                                                    repeat (go_quiet (fail); try go_wp2)
                                                    go_ret
                                                    exact ⟨by first | rfl | (simp [errW_none, errW_some] <;> rfl) | (simp [*, errW_none, errW_some] <;> rfl), bw HB⟩
                                                  · rw [if_neg c45] at H
                                                    have c45b0 : decide ((rd t192 x11_3) < (rd t192 x12_5)) = false := decide_eq_false c45
                                                    clear c45
                                                    have H' := Aside0.mk H
                                                    clear H
                                                    have p203 : 0 ≤ (x11_3 : Int) := of_decide_eq_true (by first | (with_reducible assumption) | assumption)
                                                    have q203 : x11_3 < (t186.length : Int) := of_decide_eq_true (by first | (with_reducible assumption) | assumption)
                                                    obtain ⟨ad203, e203, hx203_0⟩ := Kd.at_int (Kd.R_reads' HO_5.out).2.2 x11_3 p203 q203
                                                    cases e203
                                                    replace p203 := eq_true p203
                                                    replace q203 := eq_true q203
                                                    have p204 : 0 ≤ (x12_5 : Int) := of_decide_eq_true (by first | (with_reducible assumption) | assumption)
                                                    have q204 : x12_5 < (t186.length : Int) := of_decide_eq_true (by first | (with_reducible assumption) | assumption)
                                                    obtain ⟨ad204, e204, hx204_0⟩ := Kd.at_int (Kd.R_reads' HO_5.out).2.2 x12_5 p204 q204
                                                    obtain rfl : ad203 = ad204 := (by injection e204)
                                                    replace p204 := eq_true p204
                                                    replace q204 := eq_true q204
                                                    have p205 : 0 ≤ (x11_3 : Int) := of_decide_eq_true (by first | (with_reducible assumption) | assumption)
                                                    have q205 : x11_3 < (t192.length : Int) := of_decide_eq_true (by first | (with_reducible assumption) | assumption)
                                                    obtain ⟨ad205, e205, hx205_0⟩ := Kd.at_int (Kd.R_reads' HO_8.out).2.2 x11_3 p205 q205
                                                    obtain rfl : ad198 = ad205 := (by injection e205)
                                                    replace p205 := eq_true p205
                                                    replace q205 := eq_true q205
                                                    have p206 : 0 ≤ (x12_5 : Int) := of_decide_eq_true (by first | (with_reducible assumption) | assumption)
                                                    have q206 : x12_5 < (t192.length : Int) := of_decide_eq_true (by first | (with_reducible assumption) | assumption)
                                                    obtain ⟨ad206, e206, hx206_0⟩ := Kd.at_int (Kd.R_reads' HO_8.out).2.2 x12_5 p206 q206
                                                    obtain rfl : ad198 = ad206 := (by injection e206)
                                                    replace p206 := eq_true p206
                                                    replace q206 := eq_true q206
                                                    go_wp2
                                                    repeat (go_quiet (fail); try go_wp2)
                                                    go_roundg k5
                                                    case measure => have := HK1.out; have := HJ24.out; have := HK3.out; have := HJ33.out; have := HK5.out; omega
                                                    case rel => exact ⟨(wrap64 (x12_5 + 1)), (by first | rfl | (simp; done) | (simp [*]; done)), H', ⟨by have := HK1.out; have := HJ24.out; have := HK3.out; have := HJ33.out; have := HK5.out; omega⟩, ⟨by (with_reducible repeat (first | apply Kd.R_alloc | apply Kd.R_drewN | apply Kd.R_drew)); exact HO_5.out⟩, ⟨by (with_reducible repeat (first | apply Kd.R_alloc | apply Kd.R_drewN | apply Kd.R_drew)); exact HO_8.out⟩, ⟨bw HB⟩⟩
                                                · rw [if_neg c44] at H
                                                  exact absurd H (by simp)
                                              · rw [if_neg c43] at H
                                                exact absurd H (by simp)
                                            · rw [if_neg c42] at H
                                              have c42b0 : decide ((rd t186 x12_5) < (rd t186 x11_3)) = false := decide_eq_false c42
                                              clear c42
                                              have H' := Aside0.mk H
                                              clear H
                                              have p203 : 0 ≤ (x11_3 : Int) := of_decide_eq_true (by first | (with_reducible assumption) | assumption)
                                              have q203 : x11_3 < (t186.length : Int) := of_decide_eq_true (by first | (with_reducible assumption) | assumption)
                                              obtain ⟨ad203, e203, hx203_0⟩ := Kd.at_int (Kd.R_reads' HO_5.out).2.2 x11_3 p203 q203
                                              cases e203
                                              replace p203 := eq_true p203
                                              replace q203 := eq_true q203
                                              have p204 : 0 ≤ (x12_5 : Int) := of_decide_eq_true (by first | (with_reducible assumption) | assumption)
                                              have q204 : x12_5 < (t186.length : Int) := of_decide_eq_true (by first | (with_reducible assumption) | assumption)
                                              obtain ⟨ad204, e204, hx204_0⟩ := Kd.at_int (Kd.R_reads' HO_5.out).2.2 x12_5 p204 q204
                                              obtain rfl : ad203 = ad204 := (by injection e204)
                                              replace p204 := eq_true p204
                                              replace q204 := eq_true q204
                                              go_wp2
                                              repeat (go_quiet (fail); try go_wp2)
                                              go_roundg k5
                                              case measure => have := HK1.out; have := HJ24.out; have := HK3.out; have := HJ33.out; have := HK5.out; omega
                                              case rel => exact ⟨(wrap64 (x12_5 + 1)), (by first | rfl | (simp; done) | (simp [*]; done)), H', ⟨by have := HK1.out; have := HJ24.out; have := HK3.out; have := HJ33.out; have := HK5.out; omega⟩, ⟨by (with_reducible repeat (first | apply Kd.R_alloc | apply Kd.R_drewN | apply Kd.R_drew)); exact HO_5.out⟩, ⟨by (with_reducible repeat (first | apply Kd.R_alloc | apply Kd.R_drewN | apply Kd.R_drew)); exact HO_8.out⟩, ⟨bw HB⟩⟩
                                          · rw [if_neg c41] at H
                                            exact absurd H (by simp)
                                        · rw [if_neg c40] at H
                                          exact absurd H (by simp)
                                      · rw [if_neg c39] at H
                                        exact absurd H (by simp)
                                    · rw [if_neg c38] at H
                                      have c38b0 : decide (x12_5 < (t186.length : Int)) = false := decide_eq_false c38
                                      clear c38
                                      have H' := Aside0.mk H
                                      clear H
                                      go_wp2
                                      repeat (go_quiet (fail); try go_wp2)
                                      go_roundg k5
                                      case measure => have := HK1.out; have := HJ24.out; have := HK3.out; have := HJ33.out; have := HK5.out; omega
                                      case rel => exact ⟨((wrap64 (x10_3 - (rd t192 x11_3)))), (wrap64 (x11_3 + 1)), (by first | rfl | (simp; done) | (simp [*]; done)), (by first | rfl | (simp; done) | (simp [*]; done)), H', ⟨by have := HK1.out; have := HJ24.out; have := HK3.out; have := HJ33.out; have := HK5.out; omega⟩, ⟨by (with_reducible repeat (first | apply Kd.R_alloc | apply Kd.R_drewN | apply Kd.R_drew)); exact HO_5.out⟩, ⟨by (with_reducible repeat (first | apply Kd.R_alloc | apply Kd.R_drewN | apply Kd.R_drew)); exact HO_8.out⟩, ⟨bw HB⟩⟩
                        · rw [if_neg c33] at H
                          exact absurd H (by simp)
                      · rw [if_neg c32] at H
                        exact absurd H (by simp)
                    · rw [if_neg c31] at H
                      have c31b0 : decide (x11_3 < (t186.length : Int)) = false := decide_eq_false c31
                      clear c31
                      by_cases c46 : x10_3 = 0
                      · rw [if_pos c46] at H
                        have c46b0 : (x10_3 == 0) = true := beq_iff_eq.mpr c46
                        have c46b1 : (x10_3 != 0) = false := bne_eq_false_iff_eq.mpr c46
                        clear c46
                        replace H := Option.bind_eq_some_iff.mp H
                        obtain ⟨t197, A470, H⟩ := H
                        replace H : (some t197) = some r := H
                        have A47 := Aside0.mk A470
                        clear A470
                        obtain rfl := Option.some.inj H
                        go_wp2_with (first | (go_at_call 18; (with_reducible refine (awardingbodylaw01_awake.calls k3  t197 _ A47.out).mono ?_); rintro e w48 ⟨rfl, hb⟩; replace HO_5 := Aside0.mk (Kd.R_below (by (with_reducible repeat (first | apply Kd.R_alloc | apply Kd.R_drewN | apply Kd.R_drew)); exact HO_5.out) hb); replace HO_8 := Aside0.mk (Kd.R_below (by (with_reducible repeat (first | apply Kd.R_alloc | apply Kd.R_drewN | apply Kd.R_drew)); exact HO_8.out) hb); replace HB := wb HB hb; (try clear hb); (try clear hb2); (try clear hk); (try clear hi)))
                        repeat (go_quiet (first | (go_at_call 18; (with_reducible refine (awardingbodylaw01_awake.calls k3  t197 _ A47.out).mono ?_); rintro e w48 ⟨rfl, hb⟩; replace HO_5 := Aside0.mk (Kd.R_below (by (with_reducible repeat (first | apply Kd.R_alloc | apply Kd.R_drewN | apply Kd.R_drew)); exact HO_5.out) hb); replace HO_8 := Aside0.mk (Kd.R_below (by (with_reducible repeat (first | apply Kd.R_alloc | apply Kd.R_drewN | apply Kd.R_drew)); exact HO_8.out) hb); replace HB := wb HB hb; (try clear hb); (try clear hb2); (try clear hk); (try clear hi))); try go_wp2_with (first | (go_at_call 18; (with_reducible refine (awardingbodylaw01_awake.calls k3  t197 _ A47.out).mono ?_); rintro e w48 ⟨rfl, hb⟩; replace HO_5 := Aside0.mk (Kd.R_below (by (with_reducible repeat (first | apply Kd.R_alloc | apply Kd.R_drewN | apply Kd.R_drew)); exact HO_5.out) hb); replace HO_8 := Aside0.mk (Kd.R_below (by (with_reducible repeat (first | apply Kd.R_alloc | apply Kd.R_drewN | apply Kd.R_drew)); exact HO_8.out) hb); replace HB := wb HB hb; (try clear hb); (try clear hb2); (try clear hk); (try clear hi))))
                        go_ret
                        exact ⟨by first | rfl | (simp [errW_none, errW_some] <;> rfl) | (simp [*, errW_none, errW_some] <;> rfl), bw HB⟩
                      · rw [if_neg c46] at H
                        have c46b0 : (x10_3 == 0) = false := beq_eq_false_iff_ne.mpr c46
                        have c46b1 : (x10_3 != 0) = true := bne_iff_ne.mpr c46
                        obtain rfl := Option.some.inj H
                        go_wp2
                        repeat (go_quiet (fail); try go_wp2)
                        go_ret
                        exact ⟨by first | rfl | (simp [errW_none, errW_some] <;> rfl) | (simp [*, errW_none, errW_some] <;> rfl), bw HB⟩

/-- THE ONE PURE STATEMENT of awardingbodylaw01_RatioFair: yours. -/
def awardingbodylaw01_RatioFair.Pure : Prop := ∀ (l0 : List Int) (a1 : Int), l0.length ≤ maxLen → l0.length * 8 ≤ 140737488351232 → (∀ x ∈ l0, (Lit.int .i64 x).wf = true) → (Lit.int .i64 a1).wf = true → ∃ k, awardingbodylaw01_RatioFair.f k l0 a1 = some true
theorem awardingbodylaw01_RatioFair.walk (P : awardingbodylaw01_RatioFair.Pure) (a0 : Option Addr) (len0 cap0 : Nat) (z0 : List Int) (a1 : Int) (w : World) (w0 : (a0 = none ∧ len0 = 0 ∧ cap0 = 0 ∧ z0 = []) ∨ ∃ x, a0 = some x ∧ len0 ≤ cap0 ∧ cap0 ≤ maxLen ∧ z0.length = cap0 ∧ (∀ i, i < z0.length → w.cell? (x.add i) = some (.int .i64 (z0.getD i 0))) ∧ ∀ n ∈ z0, (Lit.int .i64 n).wf = true) (y0 : len0 * 8 ≤ 140737488351232) (w1 : (Lit.int .i64 a1).wf = true) :
    Calls Try.prog 4 #[.slice a0 len0 cap0, .int .i64 a1] w fun e w' => e = .returned (.bool true) ∧ Below w.heap.size w w' := by
  obtain ⟨l0, rfl, hr0, hm0, hw0, hc0⟩ := ReadsInt.ofRowC w0
  obtain ⟨k, h⟩ := P l0 a1 hm0 y0 hw0 w1
  refine (awardingbodylaw01_RatioFair.calls k _ _ l0 a1 true w (Kd.C_of_reads (d := (0 : Int)) (h1 := fun _ => rfl) hr0) hc0 h).mono ?_
  rintro e w' ⟨rfl, hd⟩
  exact ⟨rfl, hd⟩

end Go.Proofs.Ytcbohbeipgcfhaa.G
