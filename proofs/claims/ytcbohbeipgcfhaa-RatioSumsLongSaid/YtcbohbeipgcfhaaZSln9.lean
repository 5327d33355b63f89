/- Texts of this claim laid together: Gf53, Gf69, MathC. -/
import Derived.Test.YtcbohbeipgcfhaaShortC
import Derived.Test.YtcbohbeipgcfhaaG0
import Derived.Test.YtcbohbeipgcfhaaGe1
import Derived.Test.YtcbohbeipgcfhaaZSln8
import Derived.Test.YtcbohbeipgcfhaaZSln7
import Derived.Test.YtcbohbeipgcfhaaZSln1
-- Printed by gp.py (a program of this session's own, over the kit's printer) out of the translation; Lean checks it.
namespace Go.Proofs.Ytcbohbeipgcfhaa.G
open Go.Proofs.Ytcbohbeipgcfhaa.Given Go.Proofs.Ytcbohbeipgcfhaa.Short
open Go.RowKit Go.Proofs.YtcbohbeipgcfhaaW.PrintWords Go.Proofs.YtcbohbeipgcfhaaW.PrintLast Go.Proofs.YtcbohbeipgcfhaaW.PrintMore
attribute [local go_sem] max2_int min2_int max_two min_two max_three min_three max_four min_four   -- for this text's walks alone
set_option linter.unusedVariables false
set_option linter.unusedSimpArgs false

attribute [local go_sem high] eqA61
/-! ### r1_Divisor: function 53 -/
def r1_Divisor.l0 : Nat → Int → Int → Int → Int → Option (Int × Int)
 | 0, _, _, _, _ => none
 | k + 1, x234000, x234001, x235000, x235001 => if (!(x235000 == 0) || (!(x235001 == 0))) = true then ((r1_Divide.f k x234000 x234001 x235000 x235001).bind fun bt236 => (r1_Divisor.l0 k x235000 x235001 bt236.2.2.1 bt236.2.2.2)) else (some (x234000, x234001))
def r1_Divisor.f (k : Nat) (a0_0 : Int) (a0_1 : Int) (a1_0 : Int) (a1_1 : Int) : Option (Int × Int) := r1_Divisor.l0 k a0_0 a0_1 a1_0 a1_1
theorem r1_Divisor.mono_l : ∀ k, (∀ y0 y1 y2 y3, LeO (r1_Divisor.l0 k y0 y1 y2 y3) (r1_Divisor.l0 (k + 1) y0 y1 y2 y3))
 | 0 => fun _ _ _ _ r h => by simp [r1_Divisor.l0] at h
 | k + 1 => by
  have ih0 := r1_Divisor.mono_l k
  ·intro y0 y1 y2 y3; unfold r1_Divisor.l0
   repeat' first
   | (with_reducible exact ih0 _ _ _ _)
   | (with_reducible exact r1_Divide.mono _ _ _ _ _)
   | (with_reducible exact LeO.refl _)
   | (with_reducible exact LeO.none _)
   | (with_reducible refine LeO.ite ?_ ?_)
   | (with_reducible refine LeO.bind ?_ (fun _ => ?_))
   | exact ih0 _ _ _ _
   | exact r1_Divide.mono _ _ _ _ _
   | exact LeO.none _
   | refine LeO.ite ?_ ?_
   | refine LeO.bind ?_ (fun _ => ?_)
theorem r1_Divisor.mono : ∀ a0 a1 a2 a3 k, LeO (r1_Divisor.f k a0 a1 a2 a3) (r1_Divisor.f (k + 1) a0 a1 a2 a3) := by
 intro a0 a1 a2 a3 k; have ih0 := r1_Divisor.mono_l k; unfold r1_Divisor.f
 repeat' first
   | (with_reducible exact ih0 _ _ _ _)
   | (with_reducible exact r1_Divide.mono _ _ _ _ _)
   | (with_reducible exact LeO.refl _)
   | (with_reducible exact LeO.none _)
   | (with_reducible refine LeO.ite ?_ ?_)
   | (with_reducible refine LeO.bind ?_ (fun _ => ?_))
   | exact ih0 _ _ _ _
   | exact r1_Divide.mono _ _ _ _ _
   | exact LeO.none _
   | refine LeO.ite ?_ ?_
   | refine LeO.bind ?_ (fun _ => ?_)
set_option maxHeartbeats 8000000 in
set_option maxRecDepth 100000 in
theorem r1_Divisor.calls (k : Nat) (a0_0 : Int) (a0_1 : Int) (a1_0 : Int) (a1_1 : Int) (r1 : Int) (r2 : Int) (w : World) (h : r1_Divisor.f k a0_0 a0_1 a1_0 a1_1 = some (r1, r2)) :
  Calls Try.prog 53 #[.agg #[.int .u64 a0_0, .int .u64 a0_1], .agg #[.int .u64 a1_0, .int .u64 a1_1]] w fun e w' => e = .returned (.agg #[.int .u64 r1, .int .u64 r2]) ∧ Below w.heap.size w w' := by
 have hu61 := Try.underlying61; have HB := Aside0.mk (Below.refl w.heap.size w); have H : (r1_Divisor.l0 k a0_0 a0_1 a1_0 a1_1) = some (r1, r2) := h; clear h; have H' := Aside0.mk H; clear H; (go_enter Try.func53, Try.ntmps53); (go_wp2_with (first | ((with_reducible refine gate_dst (N := 2) rfl ?_); refine bx (N := 2) (cs := #[.int .u64 a0_0, .int .u64 a0_1]) (t := 61) ?_; intro gb233 hg w3 hbox hb; have BK233 := Aside0.mk (hbox); have GW233 := gs HB hg; have GE233 := gs HB hg; replace HB := wb HB hb; clear hb hbox hg) | ((with_reducible refine gate_dst (N := 3) rfl ?_); refine bx (N := 3) (cs := #[.int .u64 a1_0, .int .u64 a1_1]) (t := 61) ?_; intro gb234 hg w4 hbox hb; have BK234 := Aside0.mk (hbox); have GW234 := gs HB hg; have GE234 := gs HB hg; have NB233_234 := nl BK233 hg; have NB234_233 := nr BK233 hg; replace BK233 := kb BK233 hb; replace HB := wb HB hb; clear hb hbox hg) | ((with_reducible refine gate_dst (N := 4) rfl ?_); refine bx (N := 4) (cs := #[.int .u64 0, .int .u64 0]) (t := 61) ?_; intro gb235 hg w5 hbox hb; have BK235 := Aside0.mk (hbox); have GW235 := gs HB hg; have GE235 := gs HB hg; have NB233_235 := nl BK233 hg; have NB235_233 := nr BK233 hg; have NB234_235 := nl BK234 hg; have NB235_234 := nr BK234 hg; replace BK233 := kb BK233 hb; replace BK234 := kb BK234 hb; replace HB := wb HB hb; clear hb hbox hg))); (try simp only [Act.put, List.setIfInBounds_toArray, List.set_cons_zero, List.set_cons_succ])
 go_loopg [] k (fun kq w' => ∃ (x234000_1 : Int) (x234001_1 : Int) (x235000_1 : Int) (x235001_1 : Int), Aside0 (r1_Divisor.l0 kq x234000_1 x234001_1 x235000_1 x235001_1 = some (r1, r2)) ∧ Aside0 (kq ≤ k) ∧ Aside0 (w'.heap[gb233]? = some (.cells #[.int .u64 x234000_1, .int .u64 x234001_1] 61 (0, 0))) ∧ Aside0 (w'.heap[gb234]? = some (.cells #[.int .u64 x235000_1, .int .u64 x235001_1] 61 (0, 0))) ∧ Aside0 (w'.heap[gb235]? = some (.cells #[.int .u64 0, .int .u64 0] 61 (0, 0))) ∧ Aside0 (Below w.heap.size w w'))
 case atStart => exact ⟨(a0_0), (a0_1), (a1_0), (a1_1), H', ⟨Nat.le_refl _⟩, ⟨bq BK233⟩, ⟨bq BK234⟩, ⟨bq BK235⟩, ⟨bw HB⟩⟩
 case round =>
  clear H'; (try clear p2); (try clear c5); obtain ⟨x234000_1, x234001_1, x235000_1, x235001_1, HA, HK1, BK233, BK234, BK235, HB⟩ := hrel
  cases gk with
  | zero => exact absurd HA.out (by simp [r1_Divisor.l0])
  | succ k1 =>
   have H := HA.out; clear HA; simp only [r1_Divisor.l0] at H
   by_cases c6 : (!(x235000_1 == 0) || (!(x235001_1 == 0))) = true
   ·rw [if_pos c6] at H; have c6b0 : (!(x235000_1 == 0) || (!(x235001_1 == 0))) = true := c6; clear c6; replace H := Option.bind_eq_some_iff.mp H; obtain ⟨⟨t236, t237, t238, t239⟩, A70, H⟩ := H; (try dsimp only at H); have A7 := Aside0.mk A70; clear A70; have H' := Aside0.mk H; clear H; obtain ⟨hnb8, hnc8⟩ := n2 NB234_233; obtain ⟨hnb9, hnc9⟩ := n2 NB234_235; have hcz10_0 : wr.cell? ⟨gb234, 0, none⟩ = some (.int .u64 x235000_1) := bc BK234 0; have hcz10_1 : wr.cell? ⟨gb234, 1, none⟩ = some (.int .u64 x235001_1) := bc BK234 1; have hfz10_0 := blk_frozen BK234.out 0; have hfz10_1 := blk_frozen BK234.out 1; obtain ⟨hnb11, hnc11⟩ := n2 NB233_235; have hcz12_0 : wr.cell? ⟨gb233, 0, none⟩ = some (.int .u64 x234000_1) := bc BK233 0; have hcz12_1 : wr.cell? ⟨gb233, 1, none⟩ = some (.int .u64 x234001_1) := bc BK233 1; have hfz12_0 := blk_frozen BK233.out 0; have hfz12_1 := blk_frozen BK233.out 1; (try go_wp2_with (first | ((with_reducible refine gate_callee (f := 63) rfl ?_); refine gl (some 13) Try.func63 #[.agg #[.int .u64 x234000_1, .int .u64 x234001_1], .agg #[.int .u64 x235000_1, .int .u64 x235001_1]] ?_; (with_reducible refine (r1_Divide.calls k1 x234000_1 x234001_1 x235000_1 x235001_1 t236 t237 t238 t239 _ A7.out).mono ?_); rintro e w13 ⟨rfl, hb⟩; refine ⟨_, rfl, ?_⟩; replace BK233 := kb BK233 hb; replace BK234 := kb BK234 hb; replace BK235 := kb BK235 hb; replace HB := wb HB hb; (try clear hb); (try clear hb2); (try clear hk); (try clear hi)) | ((with_reducible refine gate_dst (N := 5) rfl ?_); refine bx (N := 5) (cs := #[.int .u64 0, .int .u64 0]) (t := 61) ?_; intro gb240 hg w14 hbox hb; have BK240 := Aside0.mk (hbox); have GW240 := gs HB hg; have GE240 := gs HB hg; have NB233_240 := nl BK233 hg; have NB240_233 := nr BK233 hg; have NB234_240 := nl BK234 hg; have NB240_234 := nr BK234 hg; have NB235_240 := nl BK235 hg; have NB240_235 := nr BK235 hg; replace BK233 := kb BK233 hb; replace BK234 := kb BK234 hb; replace BK235 := kb BK235 hb; replace HB := wb HB hb; clear hb hbox hg) | ((with_reducible refine gate_dst (N := 6) rfl ?_); refine bx (N := 6) (cs := #[.int .u64 0, .int .u64 0]) (t := 61) ?_; intro gb241 hg w15 hbox hb; have BK241 := Aside0.mk (hbox); have GW241 := gs HB hg; have GE241 := gs HB hg; have NB233_241 := nl BK233 hg; have NB241_233 := nr BK233 hg; have NB234_241 := nl BK234 hg; have NB241_234 := nr BK234 hg; have NB235_241 := nl BK235 hg; have NB241_235 := nr BK235 hg; have NB240_241 := nl BK240 hg; have NB241_240 := nr BK240 hg; replace BK233 := kb BK233 hb; replace BK234 := kb BK234 hb; replace BK235 := kb BK235 hb; replace BK240 := kb BK240 hb; replace HB := wb HB hb; clear hb hbox hg; obtain ⟨hnb16, hnc16⟩ := n2 NB240_233; obtain ⟨hnb17, hnc17⟩ := n2 NB240_234; obtain ⟨hnb18, hnc18⟩ := n2 NB240_235; obtain ⟨hnb19, hnc19⟩ := n2 NB240_241; have hcz20_0 : w15.cell? ⟨gb240, 0, none⟩ = some (.int .u64 0) := bc BK240 0; have hcz20_1 : w15.cell? ⟨gb240, 1, none⟩ = some (.int .u64 0) := bc BK240 1; have hfz20_0 := blk_frozen BK240.out 0; have hfz20_1 := blk_frozen BK240.out 1; obtain ⟨hnb21, hnc21⟩ := n2 NB241_233; obtain ⟨hnb22, hnc22⟩ := n2 NB241_234; obtain ⟨hnb23, hnc23⟩ := n2 NB241_235; have hcz24_0 : w15.cell? ⟨gb241, 0, none⟩ = some (.int .u64 0) := bc BK241 0; have hcz24_1 : w15.cell? ⟨gb241, 1, none⟩ = some (.int .u64 0) := bc BK241 1; have hfz24_0 := blk_frozen BK241.out 0; have hfz24_1 := blk_frozen BK241.out 1))); have n0_ : Aside0 (((((w15.setCell ⟨gb240, 0, none⟩ (.int .u64 t236)).setCell ⟨gb240, 1, none⟩ (.int .u64 t237)).setCell ⟨gb241, 0, none⟩ (.int .u64 t238)).setCell ⟨gb241, 1, none⟩ (.int .u64 t239)).heap[gb233]? = some (.cells #[.int .u64 x234000_1, .int .u64 x234001_1] 61 (0, 0))) := ⟨bq BK233⟩; have n1_ : Aside0 (((((w15.setCell ⟨gb240, 0, none⟩ (.int .u64 t236)).setCell ⟨gb240, 1, none⟩ (.int .u64 t237)).setCell ⟨gb241, 0, none⟩ (.int .u64 t238)).setCell ⟨gb241, 1, none⟩ (.int .u64 t239)).heap[gb234]? = some (.cells #[.int .u64 x235000_1, .int .u64 x235001_1] 61 (0, 0))) := ⟨bq BK234⟩; have n2_ : Aside0 (((((w15.setCell ⟨gb240, 0, none⟩ (.int .u64 t236)).setCell ⟨gb240, 1, none⟩ (.int .u64 t237)).setCell ⟨gb241, 0, none⟩ (.int .u64 t238)).setCell ⟨gb241, 1, none⟩ (.int .u64 t239)).heap[gb235]? = some (.cells #[.int .u64 0, .int .u64 0] 61 (0, 0))) := ⟨bq BK235⟩; have n3_ : Aside0 (((((w15.setCell ⟨gb240, 0, none⟩ (.int .u64 t236)).setCell ⟨gb240, 1, none⟩ (.int .u64 t237)).setCell ⟨gb241, 0, none⟩ (.int .u64 t238)).setCell ⟨gb241, 1, none⟩ (.int .u64 t239)).heap[gb240]? = some (.cells #[.int .u64 t236, .int .u64 t237] 61 (0, 0))) := ⟨by refine pe ?_; refine blk_far ?_ NB240_241.out _; refine pe ?_; refine blk_far ?_ NB240_241.out _; refine pe ?_; refine blk_put (cs := #[.int .u64 t236, .int .u64 0]) ?_ 1 _ rfl; refine pe ?_; refine blk_put (cs := #[.int .u64 0, .int .u64 0]) ?_ 0 _ rfl; refine pe ?_; exact BK240.out⟩; have n4_ : Aside0 (((((w15.setCell ⟨gb240, 0, none⟩ (.int .u64 t236)).setCell ⟨gb240, 1, none⟩ (.int .u64 t237)).setCell ⟨gb241, 0, none⟩ (.int .u64 t238)).setCell ⟨gb241, 1, none⟩ (.int .u64 t239)).heap[gb241]? = some (.cells #[.int .u64 t238, .int .u64 t239] 61 (0, 0))) := ⟨by refine pe ?_; refine blk_put (cs := #[.int .u64 t238, .int .u64 0]) ?_ 1 _ rfl; refine pe ?_; refine blk_put (cs := #[.int .u64 0, .int .u64 0]) ?_ 0 _ rfl; refine pe ?_; refine blk_far ?_ NB241_240.out _; refine pe ?_; refine blk_far ?_ NB241_240.out _; refine pe ?_; exact BK241.out⟩; have n5_ : Aside0 (Below w.heap.size w ((((w15.setCell ⟨gb240, 0, none⟩ (.int .u64 t236)).setCell ⟨gb240, 1, none⟩ (.int .u64 t237)).setCell ⟨gb241, 0, none⟩ (.int .u64 t238)).setCell ⟨gb241, 1, none⟩ (.int .u64 t239))) := ⟨bw HB⟩; (try clear BK233); (try clear BK234); (try clear BK235); (try clear BK240); (try clear BK241); (try clear HB); (generalize ((((w15.setCell ⟨gb240, 0, none⟩ (.int .u64 t236)).setCell ⟨gb240, 1, none⟩ (.int .u64 t237)).setCell ⟨gb241, 0, none⟩ (.int .u64 t238)).setCell ⟨gb241, 1, none⟩ (.int .u64 t239)) = w25 at n0_ n1_ n2_ n3_ n4_ n5_ ⊢); have BK233 := n0_; have BK234 := n1_; have BK235 := n2_; have BK240 := n3_; have BK241 := n4_; have HB := n5_; clear n0_ n1_ n2_ n3_ n4_ n5_; have n0_ := Aside0.mk (blk_drew BK233.out); have n1_ := Aside0.mk (blk_drew BK234.out); have n2_ := Aside0.mk (blk_drew BK235.out); have n3_ := Aside0.mk (blk_drew BK240.out); have n4_ := Aside0.mk (blk_drew BK241.out); have n5_ := Aside0.mk (below_drew1 HB.out); clear BK233; clear BK234; clear BK235; clear BK240; clear BK241; clear HB; have BK233 := n0_; have BK234 := n1_; have BK235 := n2_; have BK240 := n3_; have BK241 := n4_; have HB := n5_; clear n0_ n1_ n2_ n3_ n4_ n5_; refine start_ (n := 4) (S := fun w' => w'.cell? ⟨gb234, 0, none⟩ = some (.int .u64 x235000_1) ∧ w'.cell? ⟨gb234, 1, none⟩ = some (.int .u64 x235001_1) ∧ w'.cell? ⟨gb241, 0, none⟩ = some (.int .u64 t238) ∧ w'.cell? ⟨gb241, 1, none⟩ = some (.int .u64 t239)) (ds := [3]) #[false, false, false, false] (by kernel_rfl) rfl rfl ⟨bc BK234 0, bc BK234 1, bc BK241 0, bc BK241 1⟩ (fun hHeld => ?_); (generalize w25.drew = w26 at BK233 BK234 BK235 BK240 BK241 HB hHeld ⊢); refine take_ (i := 0) (N := some 16) (v := ?_) (a' := ?_) #[true, false, false, false] rfl rfl (by kernel_rfl) (fun _ _ _ h => h) (Or.inl ⟨by rfl, ?_⟩) hHeld ?_ ?_; rotate_left
    ·rintro w' ⟨s0, s1, s2, s3⟩; (go_simp); with_reducible rfl
    rotate_left
    ·simp only [Act.put, List.setIfInBounds_toArray, List.set_cons_zero, List.set_cons_succ, i64_w, i32_w]; rfl
    refine take_ (i := 1) (N := some 17) (v := ?_) (a' := ?_) #[true, true, false, false] rfl rfl (by kernel_rfl) (fun _ _ _ h => h) (Or.inl ⟨by rfl, ?_⟩) hHeld ?_ ?_; rotate_left
    ·rintro w' ⟨s0, s1, s2, s3⟩; (go_simp); with_reducible rfl
    rotate_left
    ·simp only [Act.put, List.setIfInBounds_toArray, List.set_cons_zero, List.set_cons_succ, i64_w, i32_w]; rfl
    refine one_ (i := 2) (N := none) #[true, true, true, false] rfl rfl (by kernel_rfl) (by decide) (fun K hK => ?_); have hs27 : w26.cell? ⟨gb233, 0, none⟩ = some (.int .u64 x234000_1) := bc BK233 0; have hfs27 := blk_frozen BK233.out 0; have hns27_1 := NB234_233.out; have hns27_2 := NB235_233.out; have hns27_3 := NB240_233.out; have hns27_4 := NB241_233.out; have hms27_1 := NB233_234.out; have hms27_2 := NB233_235.out; have hms27_3 := NB233_240.out; have hms27_4 := NB233_241.out; have hs28 : w26.cell? ⟨gb233, 1, none⟩ = some (.int .u64 x234001_1) := bc BK233 1; have hfs28 := blk_frozen BK233.out 1; have hns28_1 := NB234_233.out; have hns28_2 := NB235_233.out; have hns28_3 := NB240_233.out; have hns28_4 := NB241_233.out; have hms28_1 := NB233_234.out; have hms28_2 := NB233_235.out; have hms28_3 := NB233_240.out; have hms28_4 := NB233_241.out; refine skip_ (w1 := ?_) (by rfl) rfl ?_ ?_; rotate_left
    ·(go_simp); rfl
    refine hK.out _ _ ⟨((cell_far (p := ⟨gb233, _, none⟩) NB234_233.out _).trans (((cell_far (p := ⟨gb233, _, none⟩) NB234_233.out _).trans (hHeld.1)))), ((cell_far (p := ⟨gb233, _, none⟩) NB234_233.out _).trans (((cell_far (p := ⟨gb233, _, none⟩) NB234_233.out _).trans (hHeld.2.1)))), ((cell_far (p := ⟨gb233, _, none⟩) NB241_233.out _).trans (((cell_far (p := ⟨gb233, _, none⟩) NB241_233.out _).trans (hHeld.2.2.1)))), ((cell_far (p := ⟨gb233, _, none⟩) NB241_233.out _).trans (((cell_far (p := ⟨gb233, _, none⟩) NB241_233.out _).trans (hHeld.2.2.2))))⟩ (fun hHeld => ?_); clear hK K; refine last_ (i := 3) (N := none) #[true, true, true, true] rfl rfl (by kernel_rfl) (by decide) (fun K hK => ?_); have hs29 : w26.cell? ⟨gb234, 0, none⟩ = some (.int .u64 x235000_1) := bc BK234 0; have hfs29 := blk_frozen BK234.out 0; have hns29_0 := NB233_234.out; have hns29_2 := NB235_234.out; have hns29_3 := NB240_234.out; have hns29_4 := NB241_234.out; have hms29_0 := NB234_233.out; have hms29_2 := NB234_235.out; have hms29_3 := NB234_240.out; have hms29_4 := NB234_241.out; have hs30 : w26.cell? ⟨gb234, 1, none⟩ = some (.int .u64 x235001_1) := bc BK234 1; have hfs30 := blk_frozen BK234.out 1; have hns30_0 := NB233_234.out; have hns30_2 := NB235_234.out; have hns30_3 := NB240_234.out; have hns30_4 := NB241_234.out; have hms30_0 := NB234_233.out; have hms30_2 := NB234_235.out; have hms30_3 := NB234_240.out; have hms30_4 := NB234_241.out; refine skip_ (w1 := ?_) (by rfl) rfl ?_ ?_; rotate_left
    ·(go_simp); rfl
    refine hK.out _ _ ?_; clear hK K; refine done_ (by kernel_rfl) ?_; try go_wp2
    go_roundg k1
    case measure => have := HK1.out; omega
    case rel => exact ⟨(x235000_1), (x235001_1), (t238), (t239), H', ⟨by have := HK1.out; omega⟩, ⟨by refine pe ?_; refine blk_far ?_ NB233_234.out _; refine pe ?_; refine blk_far ?_ NB233_234.out _; refine pe ?_; refine blk_put (cs := #[.int .u64 x235000_1, .int .u64 x234001_1]) ?_ 1 _ rfl; refine pe ?_; refine blk_put (cs := #[.int .u64 x234000_1, .int .u64 x234001_1]) ?_ 0 _ rfl; refine pe ?_; exact BK233.out⟩, ⟨by refine pe ?_; refine blk_put (cs := #[.int .u64 t238, .int .u64 x235001_1]) ?_ 1 _ rfl; refine pe ?_; refine blk_put (cs := #[.int .u64 x235000_1, .int .u64 x235001_1]) ?_ 0 _ rfl; refine pe ?_; refine blk_far ?_ NB234_233.out _; refine pe ?_; refine blk_far ?_ NB234_233.out _; refine pe ?_; exact BK234.out⟩, ⟨bq BK235⟩, ⟨bw HB⟩⟩
   ·rw [if_neg c6] at H; (have c6b0 : (!(x235000_1 == 0) || (!(x235001_1 == 0))) = false := by simpa using c6); clear c6; simp only [Option.some.injEq, Prod.mk.injEq] at H; obtain ⟨rfl, rfl⟩ := H; obtain ⟨hnb31, hnc31⟩ := n2 NB234_233; obtain ⟨hnb32, hnc32⟩ := n2 NB234_235; have hcz33_0 : wr.cell? ⟨gb234, 0, none⟩ = some (.int .u64 x235000_1) := bc BK234 0; have hcz33_1 : wr.cell? ⟨gb234, 1, none⟩ = some (.int .u64 x235001_1) := bc BK234 1; have hfz33_0 := blk_frozen BK234.out 0; have hfz33_1 := blk_frozen BK234.out 1; obtain ⟨hnb34, hnc34⟩ := n2 NB233_235; have hcz35_0 : wr.cell? ⟨gb233, 0, none⟩ = some (.int .u64 x234000_1) := bc BK233 0; have hcz35_1 : wr.cell? ⟨gb233, 1, none⟩ = some (.int .u64 x234001_1) := bc BK233 1; have hfz35_0 := blk_frozen BK233.out 0; have hfz35_1 := blk_frozen BK233.out 1; have hcz36_0 : wr.cell? ⟨gb235, 0, none⟩ = some (.int .u64 0) := bc BK235 0; have hcz36_1 : wr.cell? ⟨gb235, 1, none⟩ = some (.int .u64 0) := bc BK235 1; have hfz36_0 := blk_frozen BK235.out 0; have hfz36_1 := blk_frozen BK235.out 1; (go_wp2); refine bodyPost_ret (results_cell_row rfl _ _ gb235 61 #[.int .u64 x234000_1, .int .u64 x234001_1] (0, 0) _ rfl (by refine pe ?_; refine blk_put (cs := #[.int .u64 x234000_1, .int .u64 0]) ?_ 1 _ rfl; refine pe ?_; refine blk_put (cs := #[.int .u64 0, .int .u64 0]) ?_ 0 _ rfl; refine pe ?_; exact BK235.out) Try.underlying61 rfl (by kernel_rfl)) rfl ?_; exact ⟨by first | rfl | (simp [errW_none, errW_some] <;> rfl) | (simp [*, errW_none, errW_some] <;> rfl), bw HB⟩

end Go.Proofs.Ytcbohbeipgcfhaa.G

-- Printed by gp.py (a program of this session's own, over the kit's printer) out of the translation; Lean checks it.
namespace Go.Proofs.Ytcbohbeipgcfhaa.G
open Go.Proofs.Ytcbohbeipgcfhaa.Given Go.Proofs.Ytcbohbeipgcfhaa.Short
open Go.RowKit Go.Proofs.YtcbohbeipgcfhaaW.PrintWords Go.Proofs.YtcbohbeipgcfhaaW.PrintLast Go.Proofs.YtcbohbeipgcfhaaW.PrintMore
attribute [local go_sem] max2_int min2_int max_two min_two max_three min_three max_four min_four   -- for this text's walks alone
set_option linter.unusedVariables false
set_option linter.unusedSimpArgs false

/-! ### r1_Plus: function 69 -/
def r1_Plus.f (a0_0 : Int) (a0_1 : Int) (a1_0 : Int) (a1_1 : Int) : Option (Int × Int) := (bits_Add64.f a0_1 a1_1 0).bind fun bt461 => ((bits_Add64.f a0_0 a1_0 bt461.2).bind fun bt463 => (some (bt463.1, bt461.1)))
set_option maxHeartbeats 8000000 in
set_option maxRecDepth 100000 in
theorem r1_Plus.calls (a0_0 : Int) (a0_1 : Int) (a1_0 : Int) (a1_1 : Int) (r1 : Int) (r2 : Int) (w : World) (h : r1_Plus.f a0_0 a0_1 a1_0 a1_1 = some (r1, r2)) :
  Calls Try.prog 69 #[.agg #[.int .u64 a0_0, .int .u64 a0_1], .agg #[.int .u64 a1_0, .int .u64 a1_1]] w fun e w' => e = .returned (.agg #[.int .u64 r1, .int .u64 r2]) ∧ Below w.heap.size w w' := by
 have hu61 := Try.underlying61; have HB := Aside0.mk (Below.refl w.heap.size w); have H : ((bits_Add64.f a0_1 a1_1 0).bind fun bt461 => ((bits_Add64.f a0_0 a1_0 bt461.2).bind fun bt463 => (some (bt463.1, bt461.1)))) = some (r1, r2) := h; clear h; replace H := Option.bind_eq_some_iff.mp H; obtain ⟨⟨t461, t462⟩, A30, H⟩ := H; (try dsimp only at H); have A3 := Aside0.mk A30; clear A30; replace H := Option.bind_eq_some_iff.mp H; obtain ⟨⟨t463, t464⟩, A40, H⟩ := H; (try dsimp only at H); have A4 := Aside0.mk A40; clear A40; simp only [Option.some.injEq, Prod.mk.injEq] at H; obtain ⟨rfl, rfl⟩ := H; (go_enter Try.func69, Try.ntmps69); (go_wp2_with (first | ((with_reducible refine gate_dst (N := 2) rfl ?_); refine bx (N := 2) (cs := #[.int .u64 a0_0, .int .u64 a0_1]) (t := 61) ?_; intro gb458 hg w5 hbox hb; have BK458 := Aside0.mk (hbox); have GW458 := gs HB hg; have GE458 := gs HB hg; replace HB := wb HB hb; clear hb hbox hg) | ((with_reducible refine gate_dst (N := 3) rfl ?_); refine bx (N := 3) (cs := #[.int .u64 a1_0, .int .u64 a1_1]) (t := 61) ?_; intro gb459 hg w6 hbox hb; have BK459 := Aside0.mk (hbox); have GW459 := gs HB hg; have GE459 := gs HB hg; have NB458_459 := nl BK458 hg; have NB459_458 := nr BK458 hg; replace BK458 := kb BK458 hb; replace HB := wb HB hb; clear hb hbox hg) | ((with_reducible refine gate_dst (N := 4) rfl ?_); refine bx (N := 4) (cs := #[.int .u64 0, .int .u64 0]) (t := 61) ?_; intro gb460 hg w7 hbox hb; have BK460 := Aside0.mk (hbox); have GW460 := gs HB hg; have GE460 := gs HB hg; have NB458_460 := nl BK458 hg; have NB460_458 := nr BK458 hg; have NB459_460 := nl BK459 hg; have NB460_459 := nr BK459 hg; replace BK458 := kb BK458 hb; replace BK459 := kb BK459 hb; replace HB := wb HB hb; clear hb hbox hg; obtain ⟨hnb8, hnc8⟩ := n2 NB458_459; obtain ⟨hnb9, hnc9⟩ := n2 NB458_460; have hcz10_0 : w7.cell? ⟨gb458, 0, none⟩ = some (.int .u64 a0_0) := bc BK458 0; have hcz10_1 : w7.cell? ⟨gb458, 1, none⟩ = some (.int .u64 a0_1) := bc BK458 1; have hfz10_0 := blk_frozen BK458.out 0; have hfz10_1 := blk_frozen BK458.out 1; obtain ⟨hnb11, hnc11⟩ := n2 NB459_460; have hcz12_0 : w7.cell? ⟨gb459, 0, none⟩ = some (.int .u64 a1_0) := bc BK459 0; have hcz12_1 : w7.cell? ⟨gb459, 1, none⟩ = some (.int .u64 a1_1) := bc BK459 1; have hfz12_0 := blk_frozen BK459.out 0; have hfz12_1 := blk_frozen BK459.out 1) | ((with_reducible refine gate_callee (f := 73) rfl ?_); refine gx (some 14) Try.func73 #[.int .u64 a0_1, .int .u64 a1_1, .int .u64 0] ?_; (with_reducible refine (bits_Add64.calls a0_1 a1_1 0 t461 t462 _ A3.out).mono ?_); rintro e w13 ⟨rfl, hb⟩; refine ⟨_, rfl, ?_⟩; replace BK458 := kb BK458 hb; replace BK459 := kb BK459 hb; replace BK460 := kb BK460 hb; replace HB := wb HB hb; (try clear hb); (try clear hb2); (try clear hk); (try clear hi); have hcz14_0 : w13.cell? ⟨gb458, 0, none⟩ = some (.int .u64 a0_0) := bc BK458 0; have hcz14_1 : w13.cell? ⟨gb458, 1, none⟩ = some (.int .u64 a0_1) := bc BK458 1; have hfz14_0 := blk_frozen BK458.out 0; have hfz14_1 := blk_frozen BK458.out 1; have hcz15_0 : w13.cell? ⟨gb459, 0, none⟩ = some (.int .u64 a1_0) := bc BK459 0; have hcz15_1 : w13.cell? ⟨gb459, 1, none⟩ = some (.int .u64 a1_1) := bc BK459 1; have hfz15_0 := blk_frozen BK459.out 0; have hfz15_1 := blk_frozen BK459.out 1) | ((with_reducible refine gate_callee (f := 73) rfl ?_); refine gx (some 23) Try.func73 #[.int .u64 a0_0, .int .u64 a1_0, .int .u64 t462] ?_; (with_reducible refine (bits_Add64.calls a0_0 a1_0 t462 t463 t464 _ A4.out).mono ?_); rintro e w16 ⟨rfl, hb⟩; refine ⟨_, rfl, ?_⟩; replace BK458 := kb BK458 hb; replace BK459 := kb BK459 hb; replace BK460 := kb BK460 hb; replace HB := wb HB hb; (try clear hb); (try clear hb2); (try clear hk); (try clear hi); have hcz17_0 : w16.cell? ⟨gb460, 0, none⟩ = some (.int .u64 0) := bc BK460 0; have hcz17_1 : w16.cell? ⟨gb460, 1, none⟩ = some (.int .u64 0) := bc BK460 1; have hfz17_0 := blk_frozen BK460.out 0; have hfz17_1 := blk_frozen BK460.out 1))); refine bodyPost_ret (results_cell_row rfl _ _ gb460 61 #[.int .u64 t463, .int .u64 t461] (0, 0) _ rfl (by refine pe ?_; refine blk_put (cs := #[.int .u64 t463, .int .u64 0]) ?_ 1 _ rfl; refine pe ?_; refine blk_put (cs := #[.int .u64 0, .int .u64 0]) ?_ 0 _ rfl; refine pe ?_; exact BK460.out) Try.underlying61 rfl (by kernel_rfl)) rfl ?_; exact ⟨by first | rfl | (simp [errW_none, errW_some] <;> rfl) | (simp [*, errW_none, errW_some] <;> rfl), bw HB⟩

end Go.Proofs.Ytcbohbeipgcfhaa.G

/- The reference's arithmetic on numbers of 128 bits, as the printed functions compute it: doubling, sum, difference, comparison, long division, greatest common divisor: for all numbers below 2^128 (a divisor that is not 0). -/
namespace Go.Proofs.Ytcbohbeipgcfhaa.Mth
open Go.RowKit Go.Proofs.Ytcbohbeipgcfhaa.G Go.Proofs.Ytcbohbeipgcfhaa.Given Go.Proofs.YtcbohbeipgcfhaaW.PrintWords Go.Proofs.YtcbohbeipgcfhaaW.PrintLast Go.Proofs.YtcbohbeipgcfhaaW.PrintMore
set_option linter.unusedVariables false

/-- the upper and the lower half of a number -/
def hi (n : Nat) : Int := ((n / 18446744073709551616 : Nat) : Int)
def lo (n : Nat) : Int := ((n % 18446744073709551616 : Nat) : Int)

theorem gcd_ev : ∀ b a : Nat, Ev (fun k => ratio_gcd.f k a b) ((Nat.gcd a b : Nat) : Int) := by
  intro b
  induction b using Nat.strongRecOn with
  | _ b ih =>
    intro a
    by_cases h : b = 0
    · subst h
      refine ev_some (fun k => ?_); simp only [ratio_gcd.f, ratio_gcd.l0]; rw [if_pos (by rfl), Nat.gcd_zero_right]
    · have hlt : a % b < b := Nat.mod_lt _ (by omega)
      have := ih (a % b) hlt b; rw [show Nat.gcd a b = Nat.gcd b (a % b) from by rw [Nat.gcd_comm a b, Nat.gcd_rec b a, Nat.gcd_comm]]; refine Ev.step (fun k => ?_) this; simp only [ratio_gcd.f, ratio_gcd.l0]; rw [if_neg (by omega)]; rfl

theorem twice_eq (n : Nat) (h : n < 340282366920938463463374607431768211456) : r1_Twice.f (hi n) (lo n) = some (hi (2 * n % 340282366920938463463374607431768211456), lo (2 * n % 340282366920938463463374607431768211456)) := by
  unfold r1_Twice.f; obtain ⟨H, hH⟩ : ∃ H, n / 18446744073709551616 = H := ⟨_, rfl⟩; obtain ⟨L, hL⟩ : ∃ L, n % 18446744073709551616 = L := ⟨_, rfl⟩
  have e1 : IntKind.u64.wrap (hi n * 2) = ((H % 9223372036854775808 * 2 : Nat) : Int) := by
    unfold hi; rw [hH, wu]; omega
  have e2 : lo n / 9223372036854775808 = ((L / 9223372036854775808 : Nat) : Int) := by unfold lo; rw [hL]; omega
  have e3 : IntKind.u64.wrap (lo n * 2) = lo (2 * n % 340282366920938463463374607431768211456) := by
    unfold lo; rw [wu]; omega
  rw [e1, e2, e3, or_add (H % 9223372036854775808) (L / 9223372036854775808) 2 1 rfl (by omega) (by omega)]
  have e4 : ((H % 9223372036854775808 * 2 + L / 9223372036854775808 : Nat) : Int) = hi (2 * n % 340282366920938463463374607431768211456) := by
    unfold hi; omega
  rw [e4]

theorem minus_eq (a b : Nat) (ha : a < 340282366920938463463374607431768211456) (hb : b < 340282366920938463463374607431768211456) :
    r1_Minus.f (hi a) (lo a) (hi b) (lo b) = some (hi ((a + 340282366920938463463374607431768211456 - b) % 340282366920938463463374607431768211456), lo ((a + 340282366920938463463374607431768211456 - b) % 340282366920938463463374607431768211456)) := by
  unfold r1_Minus.f bits_Sub64.f; rw [if_pos (by unfold lo; omega), Option.bind_some]; dsimp only; rw [if_pos (by unfold hi; split <;> omega), Option.bind_some]; simp only [Option.some.injEq, Prod.mk.injEq]; unfold hi lo; constructor
  · split <;> omega
  · omega

theorem plus_eq (a b : Nat) (ha : a < 340282366920938463463374607431768211456) (hb : b < 340282366920938463463374607431768211456) :
    r1_Plus.f (hi a) (lo a) (hi b) (lo b) = some (hi ((a + b) % 340282366920938463463374607431768211456), lo ((a + b) % 340282366920938463463374607431768211456)) := by
  unfold r1_Plus.f bits_Add64.f; rw [if_pos (by unfold lo; omega), Option.bind_some]; dsimp only; rw [if_pos (by unfold hi lo; omega), Option.bind_some]; simp only [Option.some.injEq, Prod.mk.injEq]; unfold hi lo; constructor <;> omega

theorem hl_eq {a b : Nat} : hi a = hi b → lo a = lo b → a = b := by unfold hi lo; omega
theorem order_ev (a b : Nat) : Ev (fun k => r1_Order.f k (hi a) (lo a) (hi b) (lo b)) (if a < b then (-1 : Int) else if a = b then 0 else 1) := by
  have key : Ev (fun k => r1_Order.j0 k (decide (a < b)) (hi a) (lo a) (hi b) (lo b)) (if a < b then (-1 : Int) else if a = b then 0 else 1) := by
    refine ev_some (fun k => ?_); simp only [r1_Order.j0, decide_eq_true_eq]
    by_cases h : a < b
    · rw [if_pos h, if_pos h]
    · rw [if_neg h, if_neg h]
      by_cases e : a = b
      · subst e; simp
      · rw [if_neg e, if_neg]
        intro hc; simp only [Bool.and_eq_true, beq_iff_eq] at hc; exact e (hl_eq hc.1 hc.2)
  refine Ev.congr (fun k => ?_) key; unfold r1_Order.f
  by_cases h1 : hi a < hi b
  · rw [if_pos h1]
    congr 1
    symm; rw [decide_eq_true_eq]; unfold hi at h1; omega
  · rw [if_neg h1]
    by_cases h2 : hi a = hi b
    · rw [if_pos h2]
      congr 1
      rw [decide_eq_decide]; unfold hi at h2; unfold lo; omega
    · rw [if_neg h2]
      congr 1
      symm; rw [decide_eq_false_iff_not]; unfold hi at h1 h2; omega

theorem bit_lo (N i : Nat) (hi' : i < 64) : N % 18446744073709551616 / 2 ^ i % 2 = N / 2 ^ i % 2 := by
  have h := Nat.testBit_mod_two_pow N 64 i; rw [show decide (i < 64) = true from decide_eq_true hi', Bool.true_and] at h; rw [Nat.testBit_eq_decide_div_mod_eq, Nat.testBit_eq_decide_div_mod_eq, decide_eq_decide] at h
  change (N % 18446744073709551616 / 2 ^ i % 2 = 1 ↔ _) at h
  obtain ⟨X, hX⟩ : ∃ X, N % 18446744073709551616 / 2 ^ i = X := ⟨_, rfl⟩; obtain ⟨Y, hY⟩ : ∃ Y, N / 2 ^ i = Y := ⟨_, rfl⟩; rw [hX, hY] at h ⊢; omega
theorem bit_hi (N i : Nat) (hi' : 64 ≤ i) : N / 18446744073709551616 / 2 ^ (i - 64) = N / 2 ^ i := by
  rw [Nat.div_div_eq_div_mul]
  have : 18446744073709551616 * 2 ^ (i - 64) = 2 ^ i := by
    rw [show (18446744073709551616 : Nat) = 2 ^ 64 from rfl, ← Nat.pow_add, show 64 + (i - 64) = i from by omega]
  rw [this]
theorem and_one (a : Nat) (ha : a < 18446744073709551616) : Go.bits .and .u64 (a : Int) 1 = ((a % 2 : Nat) : Int) := by
  have h := bits_and_u64_nat a 1 ha (by omega); rw [Nat.and_one_is_mod] at h; exact h

/-- One round, from the doubled rest with its new bit. -/
theorem dstep_ev (N D Q R b i : Nat) (hN : N < 340282366920938463463374607431768211456) (hD : D < 340282366920938463463374607431768211456) (hD0 : 0 < D) (hQ : Q < 170141183460469231731687303715884105728) (hR : R < D) (hb : b ≤ 1) {r : Int × Int × Int × Int}
    (h : Ev (fun k => r1_Divide.l0 k ((i : Int) - 1) (hi N) (lo N) (hi D) (lo D) (hi (if D ≤ 2 * R + b then 2 * Q + 1 else 2 * Q)) (lo (if D ≤ 2 * R + b then 2 * Q + 1 else 2 * Q)) (hi (if D ≤ 2 * R + b then 2 * R + b - D else 2 * R + b)) (lo (if D ≤ 2 * R + b then 2 * R + b - D else 2 * R + b))) r) (hi' : i < 128) :
    Ev (fun k => r1_Divide.j2 k (i : Int) (b : Int) (hi N) (lo N) (hi D) (lo D) (hi Q) (lo Q) (hi R) (lo R)) r := by
  have t1 := twice_eq R (by omega); have t2 := twice_eq Q (by omega); obtain ⟨X, hX⟩ : ∃ X, 2 * R % 340282366920938463463374607431768211456 = X := ⟨_, rfl⟩; rw [hX] at t1; rw [show 2 * Q % 340282366920938463463374607431768211456 = 2 * Q from by omega] at t2
  have eo1 : Go.bits .or .u64 (lo X) (b : Int) = lo (X + b) := by
    have := or_add (X % 18446744073709551616 / 2) b 2 1 rfl (by omega) (by omega); rw [show X % 18446744073709551616 / 2 * 2 = X % 18446744073709551616 from by omega] at this; unfold lo; rw [this]; omega
  have eh1 : hi X = hi (X + b) := by unfold hi; omega
  have eo2 : Go.bits .or .u64 (lo (2 * Q)) 1 = lo (2 * Q + 1) := by
    have := or_add (2 * Q % 18446744073709551616 / 2) 1 2 1 rfl (by omega) (by omega); rw [show 2 * Q % 18446744073709551616 / 2 * 2 = 2 * Q % 18446744073709551616 from by omega] at this; unfold lo; exact this.trans (by omega)
  (have eh2 : hi (2 * Q) = hi (2 * Q + 1) := by unfold hi; omega); (have ei : wrap64 ((i : Int) - 1) = (i : Int) - 1 := by unfold wrap64; omega); have hm := minus_eq (X + b) D (by omega) hD
  by_cases hov : 340282366920938463463374607431768211456 ≤ 2 * R
  · rw [if_pos (by omega), if_pos (by omega)] at h
    refine Ev.step (fun k => ?_) h; simp only [r1_Divide.j2]; rw [t1, t2, Option.bind_some, Option.bind_some]; dsimp only; rw [if_pos (by unfold hi; omega), eo1, eh1, hm, Option.bind_some, ei]; dsimp only; rw [eo2, eh2, show (X + b + 340282366920938463463374607431768211456 - D) % 340282366920938463463374607431768211456 = 2 * R + b - D from by omega]
  · have ho := order_ev (X + b) D
    by_cases hge : D ≤ 2 * R + b
    · rw [if_pos hge, if_pos hge] at h
      rw [if_neg (show ¬ X + b < D by omega)] at ho; obtain ⟨c, hc⟩ : ∃ c : Int, (if X + b = D then (0 : Int) else 1) = c := ⟨_, rfl⟩; rw [hc] at ho; (have hc0 : c ≥ 0 := by rw [← hc]; split <;> decide); (have hsub : (X + b + 340282366920938463463374607431768211456 - D) % 340282366920938463463374607431768211456 = 2 * R + b - D := by omega); rw [← hsub] at h; refine Ev.step (f := fun k => (r1_Order.f k (hi (X + b)) (lo (X + b)) (hi D) (lo D)).bind fun t => if t ≥ 0 then r1_Divide.l0 k ((i : Int) - 1) (hi N) (lo N) (hi D) (lo D) (hi (2 * Q + 1)) (lo (2 * Q + 1)) (hi ((X + b + 340282366920938463463374607431768211456 - D) % 340282366920938463463374607431768211456)) (lo ((X + b + 340282366920938463463374607431768211456 - D) % 340282366920938463463374607431768211456)) else r1_Divide.l0 k ((i : Int) - 1) (hi N) (lo N) (hi D) (lo D) (hi (2 * Q)) (lo (2 * Q)) (hi (X + b)) (lo (X + b))) (fun k => ?_) (Ev.bind ho (Ev.congr (fun k => if_pos hc0) h)); simp only [r1_Divide.j2]; rw [t1, t2, Option.bind_some, Option.bind_some]; dsimp only; rw [if_neg (by unfold hi; omega), eo1, eh1, hm, ei, eo2, ← eh2]; rfl
    · rw [if_neg hge, if_neg hge] at h
      (have hXR : X = 2 * R := by omega); rw [← hXR] at h; rw [if_pos (show X + b < D by omega)] at ho; refine Ev.step (f := fun k => (r1_Order.f k (hi (X + b)) (lo (X + b)) (hi D) (lo D)).bind fun t => if t ≥ 0 then r1_Divide.l0 k ((i : Int) - 1) (hi N) (lo N) (hi D) (lo D) (hi (2 * Q + 1)) (lo (2 * Q + 1)) (hi ((X + b + 340282366920938463463374607431768211456 - D) % 340282366920938463463374607431768211456)) (lo ((X + b + 340282366920938463463374607431768211456 - D) % 340282366920938463463374607431768211456)) else r1_Divide.l0 k ((i : Int) - 1) (hi N) (lo N) (hi D) (lo D) (hi (2 * Q)) (lo (2 * Q)) (hi (X + b)) (lo (X + b))) (fun k => ?_) (Ev.bind ho (Ev.congr (fun k => if_neg (by decide)) h)); simp only [r1_Divide.j2]; rw [t1, t2, Option.bind_some, Option.bind_some]; dsimp only; rw [if_neg (by unfold hi; omega), eo1, eh1, hm, ei, eo2, ← eh2]; rfl

theorem div_step (M D b : Nat) (hD0 : 0 < D) (hb : b ≤ 1) : (2 * M + b) / D = (if D ≤ 2 * (M % D) + b then 2 * (M / D) + 1 else 2 * (M / D)) ∧ (2 * M + b) % D = (if D ≤ 2 * (M % D) + b then 2 * (M % D) + b - D else 2 * (M % D) + b) := by
  have e := Nat.div_add_mod M D; have hr := Nat.mod_lt M hD0; obtain ⟨Q, hQ⟩ : ∃ Q, M / D = Q := ⟨_, rfl⟩; obtain ⟨R, hR⟩ : ∃ R, M % D = R := ⟨_, rfl⟩; rw [hQ, hR] at e; rw [hR] at hr; rw [hQ, hR]
  by_cases h : D ≤ 2 * R + b
  · rw [if_pos h, if_pos h]
    (have : 2 * M + b = D * (2 * Q + 1) + (2 * R + b - D) := by rw [Nat.mul_add, Nat.mul_left_comm]; omega); rw [this, Nat.mul_add_div hD0, Nat.mul_add_mod, Nat.div_eq_of_lt (by omega), Nat.mod_eq_of_lt (by omega)]; exact ⟨rfl, rfl⟩
  · rw [if_neg h, if_neg h]
    (have : 2 * M + b = D * (2 * Q) + (2 * R + b) := by rw [Nat.mul_left_comm]; omega); rw [this, Nat.mul_add_div hD0, Nat.mul_add_mod, Nat.div_eq_of_lt (by omega), Nat.mod_eq_of_lt (by omega)]; exact ⟨rfl, rfl⟩

theorem dloop_ev (N D : Nat) (hN : N < 340282366920938463463374607431768211456) (hD : D < 340282366920938463463374607431768211456) (hD0 : 0 < D) : ∀ i : Nat, i ≤ 128 →
    Ev (fun k => r1_Divide.l0 k ((i : Int) - 1) (hi N) (lo N) (hi D) (lo D) (hi (N / 2 ^ i / D)) (lo (N / 2 ^ i / D)) (hi (N / 2 ^ i % D)) (lo (N / 2 ^ i % D))) (hi (N / D), lo (N / D), hi (N % D), lo (N % D)) := by
  intro i
  induction i with
  | zero =>
    intro _; rw [Nat.pow_zero, Nat.div_one]; refine ev_some (fun k => ?_); simp only [r1_Divide.l0]; rw [if_neg (by decide)]
  | succ i ih =>
    intro hi1; have h := ih (by omega); obtain ⟨b, hb⟩ : ∃ b, N / 2 ^ i % 2 = b := ⟨_, rfl⟩; obtain ⟨M, hM⟩ : ∃ M, N / 2 ^ (i + 1) = M := ⟨_, rfl⟩
    have hNM : N / 2 ^ i = 2 * M + b := by
      rw [← hM, ← hb, Nat.pow_succ, ← Nat.div_div_eq_div_mul]; omega
    have hb1 : b ≤ 1 := by omega
    have hMN : M < 170141183460469231731687303715884105728 := by
      rw [← hM, Nat.pow_succ, ← Nat.div_div_eq_div_mul]; have := Nat.div_le_self N (2 ^ i); omega
    obtain ⟨d1, d2⟩ := div_step M D b hD0 hb1; rw [hNM, d1, d2] at h; have hQM : M / D ≤ M := Nat.div_le_self _ _; rw [hM]; have hj := dstep_ev N D (M / D) (M % D) b i hN hD hD0 (by omega) (Nat.mod_lt _ hD0) hb1 h (by omega); refine Ev.step (fun k => ?_) hj; rw [show (((i + 1 : Nat) : Int) - 1) = (i : Int) from by omega]; simp only [r1_Divide.l0]
    have ew : IntKind.u64.wrap (Int.tmod (i : Int) 64) = ((i % 64 : Nat) : Int) := by
      have : Int.tmod (i : Int) 64 = ((i % 64 : Nat) : Int) := rfl; rw [this, wu]; omega
    rw [if_pos (by omega), ew, if_pos (by omega)]
    by_cases h64 : 64 ≤ i
    · rw [if_pos (by omega)]
      (have ew2 : IntKind.u64.wrap (wrap64 ((i : Int) - 64)) = ((i - 64 : Nat) : Int) := by unfold wrap64; rw [wu]; omega); rw [ew2, if_pos (by omega)]
      have e1 : shr .u64 (hi N) ((i - 64 : Nat) : Int) = ((N / 2 ^ i : Nat) : Int) := by
        unfold hi; rw [shr_nat _ (i - 64) _ (by omega) rfl, bit_hi N i h64]
      have e2 := and_one (N / 2 ^ i) (by
        rw [← bit_hi N i h64]; have := Nat.div_le_self (N / 18446744073709551616) (2 ^ (i - 64))
        omega)
      rw [e1, e2, hb]
    · rw [if_neg (by omega)]
      have e1 : shr .u64 (lo N) ((i % 64 : Nat) : Int) = ((N % 18446744073709551616 / 2 ^ i : Nat) : Int) := by
        rw [show i % 64 = i from by omega]; unfold lo; rw [shr_nat _ i _ (by omega) rfl]
      have e2 := and_one (N % 18446744073709551616 / 2 ^ i) (by
        have := Nat.div_le_self (N % 18446744073709551616) (2 ^ i)
        omega)
      rw [e1, e2, bit_lo N i (by omega), hb]

theorem divide_ev (N D : Nat) (hN : N < 340282366920938463463374607431768211456) (hD : D < 340282366920938463463374607431768211456) (hD0 : 0 < D) :
    Ev (fun k => r1_Divide.f k (hi N) (lo N) (hi D) (lo D)) (hi (N / D), lo (N / D), hi (N % D), lo (N % D)) := by
  have hlong : Ev (fun k => r1_Divide.j0 k false (hi N) (lo N) (hi D) (lo D)) (hi (N / D), lo (N / D), hi (N % D), lo (N % D)) := by
    have h := dloop_ev N D hN hD hD0 128 (Nat.le_refl _); have e0 : N / 2 ^ 128 = 0 := Nat.div_eq_of_lt hN; rw [e0, Nat.zero_div, Nat.zero_mod] at h; refine Ev.step (fun k => ?_) h; simp only [r1_Divide.j0]; rw [if_neg (by decide)]; rfl
  by_cases h1 : N < 18446744073709551616
  · by_cases h2 : D < 18446744073709551616
    · refine Ev.congr (f := fun k => r1_Divide.j0 k true (hi N) (lo N) (hi D) (lo D)) (fun k => ?_) (ev_some (fun k => ?_))
      · unfold r1_Divide.f
        rw [if_pos (by unfold hi; omega)]
        congr 1
        rw [beq_iff_eq]; unfold hi; omega
      · simp only [r1_Divide.j0]
        rw [if_pos trivial, if_neg (by unfold lo; omega)]; (have el1 : lo N = (N : Int) := by unfold lo; omega); (have el2 : lo D = (D : Int) := by unfold lo; omega); have e3 : Int.tdiv (N : Int) (D : Int) = ((N / D : Nat) : Int) := rfl; have e4 : Int.tmod (N : Int) (D : Int) = ((N % D : Nat) : Int) := rfl; have l1 := Nat.div_le_self N D; have l2 := Nat.mod_lt N hD0; rw [el1, el2, e3, e4]; obtain ⟨Q, hQ⟩ : ∃ Q, N / D = Q := ⟨_, rfl⟩; obtain ⟨R, hR⟩ : ∃ R, N % D = R := ⟨_, rfl⟩; rw [hQ] at l1; rw [hR] at l2; rw [hQ, hR, wu]; simp only [Option.some.injEq, Prod.mk.injEq]; unfold hi lo; omega
    · refine Ev.congr (fun k => ?_) hlong
      unfold r1_Divide.f; rw [if_pos (by unfold hi; omega)]
      congr 1
      rw [beq_eq_false_iff_ne]; unfold hi; omega
  · refine Ev.congr (fun k => ?_) hlong
    unfold r1_Divide.f; rw [if_neg (by unfold hi; omega)]

theorem divisor_ev : ∀ b a : Nat, a < 340282366920938463463374607431768211456 → b < 340282366920938463463374607431768211456 →
    Ev (fun k => r1_Divisor.f k (hi a) (lo a) (hi b) (lo b)) (hi (Nat.gcd a b), lo (Nat.gcd a b)) := by
  intro b
  induction b using Nat.strongRecOn with
  | _ b ih =>
    intro a ha hb
    by_cases h : b = 0
    · subst h
      refine ev_some (fun k => ?_); simp only [r1_Divisor.f, r1_Divisor.l0]; rw [Nat.gcd_zero_right, if_neg (by decide)]
    · have hlt : a % b < b := Nat.mod_lt _ (by omega)
      have h2 := ih (a % b) hlt b hb (by omega); rw [show Nat.gcd a b = Nat.gcd b (a % b) from by rw [Nat.gcd_comm a b, Nat.gcd_rec b a, Nat.gcd_comm]]; refine Ev.step (fun k => ?_) (Ev.bind (f := fun k (t : Int × Int × Int × Int) => r1_Divisor.l0 k (hi b) (lo b) t.2.2.1 t.2.2.2) (divide_ev a b ha hb (by omega)) h2); simp only [r1_Divisor.f, r1_Divisor.l0]; rw [if_pos]; have : ¬ (hi b = 0 ∧ lo b = 0) := by unfold hi lo; omega
      by_cases hh : hi b = 0
      · have hl : ¬ lo b = 0 := fun hl => this ⟨hh, hl⟩
        simp [hl]
      · simp [hh]
end Go.Proofs.Ytcbohbeipgcfhaa.Mth
