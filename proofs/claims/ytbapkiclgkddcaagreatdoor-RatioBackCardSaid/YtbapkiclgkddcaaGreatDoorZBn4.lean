/- Texts of this claim laid together: AppB, AppC, Gf36, Gf33, Gf11, Gf5, Gf13, Gf66, Gf42, Gf18, Gf20. -/
import Derived.Test.YtbapkiclgkddcaaGreatDoorShortC
import Derived.Test.YtbapkiclgkddcaaGreatDoorApp
import Derived.Test.YtbapkiclgkddcaaGreatDoorG0
import Derived.Test.YtbapkiclgkddcaaGreatDoorZBn2
import Derived.Test.YtbapkiclgkddcaaGreatDoorGe0
import Derived.Below
import Derived.Deep.Draws
import Derived.Deep.AppendLies
import Derived.Maps.AppendAt
import Derived.OwnWalk
import Derived.Laws.BytesArg
import Derived.Laws.MakeOwn
import Derived.Laws.OwnMore
import Derived.Deep.OwnRows
import Derived.Tactics
import Derived.Laws.Slices
import Derived.KernelRfl
import Derived.RowKit3
import Derived.WideLaws
import Derived.Deep.DeepCutAuto
import Derived.Deep.CutBlock
import Derived.Deep.RegionHeld3
import Derived.Laws.Rows
import Derived.ArgAppend
import Derived.OrdersHeld
import Derived.RowKit
import Derived.Outline
/- ratio.Apportion: the ways out with an error (too many weights, a number out of range, no weight above 0). -/
namespace Go.Proofs.YtbapkiclgkddcaaGreatDoor.Given
open Go.RowKit Go.Lib Go.Sort Go.Proofs.YtbapkiclgkddcaaGreatDoor.Short Go.Proofs.YtbapkiclgkddcaaGreatDoorW.PrintWords Go.Proofs.YtbapkiclgkddcaaGreatDoorW.PrintLast Go.Proofs.YtbapkiclgkddcaaGreatDoorW.PrintMore
set_option linter.unusedVariables false
theorem rd_get (l : List Int) (k : Nat) (hk : k < l.length) : rd l k = l[k] := by simp [rd, List.getElem?_eq_getElem hk]
set_option maxHeartbeats 1000000 in
set_option maxRecDepth 100000 in
theorem ap_long (a0 : Int) (A1 : Option Addr) (c1 : Nat) (l1 : List Int) (w : World) (hr1 : Kd.C (Kd.int .i64) w A1 l1.length l1) (hc1 : l1.length ≤ c1) (hl : 100 < l1.length)  :
    Calls Tryz.prog 34 #[.int .i64 a0, .slice A1 l1.length c1] w fun e w' => ∃ v0_ : Value, e = .returned (.tuple #[v0_, .int .i64 3]) ∧ Kd.R (Kd.int .i64) 3 w' w.heap.size (fun _ => True) v0_ [] ∧ Below w.heap.size w w' := by
  have HB := Aside0.mk (Below.refl w.heap.size w); have HR := Aside0.mk hr1; have HL := Aside0.mk hl; have c100 : decide (100 < (l1.length : Int)) = true := decide_eq_true (by omega); have c100b : decide (100 < l1.length) = true := decide_eq_true (by omega); clear hr1 hl; (go_enter Tryz.func34, Tryz.ntmps34); go_wp2_with (first | ((with_reducible refine gate_dst (N := 2) rfl ?_); refine box_event ?hg (N := 2) ?hd (cs := #[.int .i64 a0]) (t := 3) ?hr ?_; (case hd => rfl); (case hg => rfl); (case hr => first | (go_simp; done) | (go_simp; rfl)); intro gT hg w3 hbox hb; have BKT := Aside0.mk hbox; have GWT := gs HB hg; replace HB := wb HB hb; clear hb hbox hg) | ((with_reducible refine gate_dst (N := 3) rfl ?_); refine box_event ?hg (N := 3) ?hd (cs := #[.slice A1 l1.length c1]) (t := 22) ?hr ?_; (case hd => rfl); (case hg => rfl); (case hr => first | (go_simp; done) | (go_simp; rfl)); intro gW hg w4 hbox hb; have BKW := Aside0.mk hbox; have GWW := gs HB hg; have NTW := nl BKT hg; replace BKT := kb BKT hb; replace HB := wb HB hb; clear hb hbox hg; have hcT : w4.cell? ⟨gT, 0, none⟩ = some (.int .i64 a0) := (blk_cell BKT.out 0).trans rfl; have hcW : w4.cell? ⟨gW, 0, none⟩ = some (.slice A1 l1.length c1) := (blk_cell BKW.out 0).trans rfl) | ((with_reducible refine gate_dst (N := 6) rfl ?_); refine box_event ?hg (N := 6) ?hd (cs := #[.int .i64 0]) (t := 3) ?hr ?_; (case hd => rfl); (case hg => rfl); (case hr => first | (go_simp; done) | (go_simp; rfl)); intro gA hg w5 hbox hb; have BKA := Aside0.mk hbox; have GWA := gs HB hg; have NTA := nl BKT hg; have NWA := nl BKW hg; replace BKT := kb BKT hb; replace BKW := kb BKW hb; replace HB := wb HB hb; clear hb hbox hg hcT hcW; have hcT : w5.cell? ⟨gT, 0, none⟩ = some (.int .i64 a0) := (blk_cell BKT.out 0).trans rfl; have hcW : w5.cell? ⟨gW, 0, none⟩ = some (.slice A1 l1.length c1) := (blk_cell BKW.out 0).trans rfl; have hcA : w5.cell? ⟨gA, 0, none⟩ = some (.int .i64 0) := (blk_cell BKA.out 0).trans rfl; have hfA := blk_frozen BKA.out 0; obtain ⟨hnTA, hnAT⟩ := n2 NTA; obtain ⟨hnWA, hnAW⟩ := n2 NWA))
  go_ret2
  exact ⟨_, rfl, Kd.R_nil _ _ _ _ _, bw HB⟩
set_option maxHeartbeats 1000000 in
set_option maxRecDepth 100000 in
theorem ap_zero (a0 : Int) (A1 : Option Addr) (c1 : Nat) (l1 : List Int) (w : World) (hr1 : Kd.C (Kd.int .i64) w A1 l1.length l1) (hc1 : l1.length ≤ c1) (hl : l1.length ≤ 100) (hgood : ∀ x ∈ a0 :: l1, bad x = false) (hS : isum l1 = 0) :
    Calls Tryz.prog 34 #[.int .i64 a0, .slice A1 l1.length c1] w fun e w' => ∃ v0_ : Value, e = .returned (.tuple #[v0_, .int .i64 10]) ∧ Kd.R (Kd.int .i64) 3 w' w.heap.size (fun _ => True) v0_ [] ∧ Below w.heap.size w w' := by
  have HB := Aside0.mk (Below.refl w.heap.size w); have HR := Aside0.mk hr1; have HL := Aside0.mk hl; have HG := Aside0.mk hgood; have c100 : decide (100 < (l1.length : Int)) = false := decide_eq_false (by omega); have c100b : decide (100 < l1.length) = false := decide_eq_false (by omega); clear hr1 hl hgood; have HS := Aside0.mk hS; clear hS; (go_enter Tryz.func34, Tryz.ntmps34); go_wp2_with (first | ((with_reducible refine gate_dst (N := 2) rfl ?_); refine box_event ?hg (N := 2) ?hd (cs := #[.int .i64 a0]) (t := 3) ?hr ?_; (case hd => rfl); (case hg => rfl); (case hr => first | (go_simp; done) | (go_simp; rfl)); intro gT hg w3 hbox hb; have BKT := Aside0.mk hbox; have GWT := gs HB hg; replace HB := wb HB hb; clear hb hbox hg) | ((with_reducible refine gate_dst (N := 3) rfl ?_); refine box_event ?hg (N := 3) ?hd (cs := #[.slice A1 l1.length c1]) (t := 22) ?hr ?_; (case hd => rfl); (case hg => rfl); (case hr => first | (go_simp; done) | (go_simp; rfl)); intro gW hg w4 hbox hb; have BKW := Aside0.mk hbox; have GWW := gs HB hg; have NTW := nl BKT hg; replace BKT := kb BKT hb; replace HB := wb HB hb; clear hb hbox hg; have hcT : w4.cell? ⟨gT, 0, none⟩ = some (.int .i64 a0) := (blk_cell BKT.out 0).trans rfl; have hcW : w4.cell? ⟨gW, 0, none⟩ = some (.slice A1 l1.length c1) := (blk_cell BKW.out 0).trans rfl) | ((with_reducible refine gate_dst (N := 6) rfl ?_); refine box_event ?hg (N := 6) ?hd (cs := #[.int .i64 0]) (t := 3) ?hr ?_; (case hd => rfl); (case hg => rfl); (case hr => first | (go_simp; done) | (go_simp; rfl)); intro gA hg w5 hbox hb; have BKA := Aside0.mk hbox; have GWA := gs HB hg; have NTA := nl BKT hg; have NWA := nl BKW hg; replace BKT := kb BKT hb; replace BKW := kb BKW hb; replace HB := wb HB hb; clear hb hbox hg hcT hcW; have hcT : w5.cell? ⟨gT, 0, none⟩ = some (.int .i64 a0) := (blk_cell BKT.out 0).trans rfl; have hcW : w5.cell? ⟨gW, 0, none⟩ = some (.slice A1 l1.length c1) := (blk_cell BKW.out 0).trans rfl; have hcA : w5.cell? ⟨gA, 0, none⟩ = some (.int .i64 0) := (blk_cell BKA.out 0).trans rfl; have hfA := blk_frozen BKA.out 0; obtain ⟨hnTA, hnAT⟩ := n2 NTA; obtain ⟨hnWA, hnAW⟩ := n2 NWA) | ((with_reducible refine gate_dst (N := 20) rfl ?_); refine Kd.R_lit (Kd.int .i64) _ 3 ?hg (N := 20) ?hd (xs := ([a0] : List Int)) (inner := [.int .i64 a0]) (ok := fun _ => True) (okp := fun _ => True) ?hr ?hp (fun _ hk => hk) trivial (Below.refl _ _) (Nat.le_refl _) (by simp) ?_; (case hd => rfl); (case hg => rfl); (case hr => first | (go_simp; done) | (go_simp; rfl)); (case hp => exact (Reps.one (show Kd.M (Kd.int .i64) _ _ _ a0 [.int .i64 a0] from rfl) (Reps.none _ _))); intro v6 w6 ho hb hg_ hnew_; have HO := Aside0.mk (Kd.R_lower ho (below_size (bw HB))); have NOT := nb BKT hnew_; have NOW := nb BKW hnew_; have NOA := nb (g := gA) (o := .cells #[.int .i64 0] 3 (0, 0)) (W := w5.setCell ⟨gA, 0, none⟩ (.int .i64 0)) ⟨by refine blk_put (cs := #[.int .i64 0]) ?_ 0 _ rfl; exact BKA.out⟩ hnew_; replace BKA := Aside0.mk (blk_below (g := gA) (o := .cells #[.int .i64 0] 3 (0, 0)) (by refine pe ?_; refine blk_put (cs := #[.int .i64 0]) ?_ 0 _ rfl; exact BKA.out) hb); replace BKT := kb BKT hb; replace BKW := kb BKW hb; replace HB := wb HB hb; clear hb ho hg_ hnew_ hcT hcW hcA hfA; have hcW : w6.cell? ⟨gW, 0, none⟩ = some (.slice A1 l1.length c1) := (blk_cell BKW.out 0).trans rfl) | ((with_reducible refine gate_builtin (b := .append) (xs := #[.tmp 20, .tmp 21]) rfl ?_); at_builtin; refine Kd.R_append_rows (Kd.int .i64) w.heap.size rfl (.tmp 20) (.tmp 21) 22 3 (.int .i64 0) 8 rfl Tryz.underlying22 infoI rfl (by decide) (by omega) v6 ([a0] : List Int) l1 _ _ _ (fun _ => True) (fun _ => False) rfl rfl ?aO ?aR (fun _ _ h => h) (fun _ h => h.elim) (fun _ _ => trivial) (Below.refl _ _) ?aS ?aL ?_; (case aR => exact Kd.C_below HR.out (bw HB)); (case aO => exact HO.out); (case aS => exact below_size (bw HB)); (case aL => have := HL.out; simp; omega); have LTA := lt7 (W1 := w6) BKA; intro v7 w7 ho hb hg hat; replace BKT := kg BKT hg NOT; replace BKW := kg BKW hg NOW; replace BKA := kg BKA hg NOA; replace HB := Aside0.mk (pw_below_grown (bw HB) _ (below_size (bw HB)) hg (Kd.R_base HO.out)); have NOA7 := n7 NOA hg hat LTA; clear HO; have HO := Aside0.mk ho; clear ho hb hg hat hcW NOT NOW NOA LTA; obtain ⟨Ao, co, eo⟩ := Kd.R_slice HO.out; subst eo; obtain ⟨ad, hAo, hcells⟩ := cells_read (Kd.R_reads' HO.out).2.2 (by simp); subst hAo; have NAD : Aside0 (ad.block ≠ gA) := ⟨fun h => NOA7.out (by simp [Value.ownBlock, h])⟩; have HC7 := Aside0.mk hcells; clear hcells HO NOA7))
  go_loopg [8, 24] (l1.length + 1) (fun gk v8 v24 wr => ∃ (i : Nat) (z : Value), v8 = z ∧ v24 = .int .i64 i ∧ i ≤ l1.length + 1 ∧ l1.length + 1 - i ≤ gk ∧ Aside0 (wr.heap[gA]? = some (.cells #[.int .i64 (isum ((a0 :: l1).take i))] 3 (0, 0))) ∧ Aside0 (wr.heap[gT]? = some (.cells #[.int .i64 a0] 3 (0, 0))) ∧ Aside0 (wr.heap[gW]? = some (.cells #[.slice A1 l1.length c1] 22 (0, 0))) ∧ Aside0 (∀ i : Nat, i < ([a0] ++ l1).length → wr.cell? (ad.add i) = some (.int .i64 (rd ([a0] ++ l1) i))) ∧ Aside0 (Below w.heap.size w wr))
  case atStart => exact ⟨0, _, rfl, by go_num, by omega, by omega, BKA, BKT, BKW, HC7, HB⟩
  case round =>
    obtain ⟨i, z, rfl, rfl, hi, hgk, BKA, BKT, BKW, HCi, HB⟩ := hrel
    by_cases hlt : i < l1.length + 1
    · have hlz : (i : Int) < (l1.length : Int) + 1 := by omega
      have hlzb : decide ((i : Int) < (l1.length : Int) + 1) = true := decide_eq_true hlz; have hci := HCi.out i (by simpa using hlt); (have i101 : (i : Int) ≤ 101 := by have := HL.out; omega); have hxb := rd_good ([a0] ++ l1) HG.out i (by simpa using hlt); have hsb := isum_take_bd ([a0] ++ l1) HG.out i; have hsn := isum_take ([a0] ++ l1) i (by simpa using hlt); rw [show (a0 :: l1) = [a0] ++ l1 from rfl] at BKA; obtain ⟨x, hx⟩ : ∃ x, rd ([a0] ++ l1) i = x := ⟨_, rfl⟩; obtain ⟨s, hs⟩ : ∃ s, isum (([a0] ++ l1).take i) = s := ⟨_, rfl⟩; rw [hx] at hci hxb hsn; rw [hs] at BKA hsb hsn; have HSN := Aside0.mk hsn; clear hs hsn; clear hx; have x0 : decide (x < 0) = false := decide_eq_false (by omega); have x1 : decide (1073741824 < x) = false := decide_eq_false (by omega); obtain ⟨xb0, xb1⟩ := hxb; have sb0 := hsb.1; (have sb1 : s ≤ 1073741824 * 101 := by have := hsb.2; have := HL.out; simp only [List.length_append, List.length_cons, List.length_nil] at hsb; omega); clear hsb; have hcA : wr.cell? ⟨gA, 0, none⟩ = some (.int .i64 s) := (blk_cell BKA.out 0).trans rfl; have hfA := blk_frozen BKA.out 0; go_wp2
      go_roundg (l1.length - i)
      case measure => omega
      case rel => exact ⟨i + 1, _, rfl, by go_num, by omega, by omega, ⟨by rw [show (a0 :: l1) = [a0] ++ l1 from rfl, HSN.out]; exact blk_put (cs := #[.int .i64 s]) BKA.out 0 _ rfl⟩, ⟨bq BKT⟩, ⟨bq BKW⟩, ⟨fun j hj => (cell_far (p := ⟨gA, 0, none⟩) (a := ad.add j) (by rw [show (ad.add j).block = ad.block from by unfold Addr.add; split <;> rfl]; exact NAD.out) _).trans (HCi.out j hj)⟩, ⟨bw HB⟩⟩
    · have hlz : ¬ (i : Int) < (l1.length : Int) + 1 := by omega
      have hlzb : decide ((i : Int) < (l1.length : Int) + 1) = false := decide_eq_false hlz; (have hil : i = (a0 :: l1).length := by simp only [List.length_cons]; omega); rw [hil, List.take_length] at BKA; clear hil HCi NAD HC7; simp only [isum] at BKA; rw [HS.out, Int.add_zero] at BKA; have ha := HG.out a0 List.mem_cons_self; simp only [bad, Bool.or_eq_false_iff, decide_eq_false_iff_not] at ha; (have a1 : 0 ≤ a0 := by omega); (have a2 : a0 ≤ 1073741824 := by omega); have hsub : a0 - a0 = 0 := Int.sub_self a0; clear ha; have hcA : wr.cell? ⟨gA, 0, none⟩ = some (.int .i64 a0) := (blk_cell BKA.out 0).trans rfl; have hfA := blk_frozen BKA.out 0; have hcT : wr.cell? ⟨gT, 0, none⟩ = some (.int .i64 a0) := (blk_cell BKT.out 0).trans rfl; have hcW : wr.cell? ⟨gW, 0, none⟩ = some (.slice A1 l1.length c1) := (blk_cell BKW.out 0).trans rfl; go_wp2
      go_ret2
      exact ⟨_, rfl, Kd.R_nil _ _ _ _ _, bw HB⟩
set_option maxHeartbeats 1000000 in
set_option maxRecDepth 100000 in
theorem ap_bad (a0 : Int) (A1 : Option Addr) (c1 : Nat) (l1 : List Int) (w : World) (hr1 : Kd.C (Kd.int .i64) w A1 l1.length l1) (hc1 : l1.length ≤ c1) (hl : l1.length ≤ 100) (hgood : ∃ x ∈ a0 :: l1, bad x = true) :
    Calls Tryz.prog 34 #[.int .i64 a0, .slice A1 l1.length c1] w fun e w' => ∃ v0_ : Value, e = .returned (.tuple #[v0_, .int .i64 2]) ∧ Kd.R (Kd.int .i64) 3 w' w.heap.size (fun _ => True) v0_ [] ∧ Below w.heap.size w w' := by
  have HB := Aside0.mk (Below.refl w.heap.size w); have HR := Aside0.mk hr1; have HL := Aside0.mk hl; have HG := Aside0.mk hgood; have c100 : decide (100 < (l1.length : Int)) = false := decide_eq_false (by omega); have c100b : decide (100 < l1.length) = false := decide_eq_false (by omega); clear hr1 hl hgood; (go_enter Tryz.func34, Tryz.ntmps34); go_wp2_with (first | ((with_reducible refine gate_dst (N := 2) rfl ?_); refine box_event ?hg (N := 2) ?hd (cs := #[.int .i64 a0]) (t := 3) ?hr ?_; (case hd => rfl); (case hg => rfl); (case hr => first | (go_simp; done) | (go_simp; rfl)); intro gT hg w3 hbox hb; have BKT := Aside0.mk hbox; have GWT := gs HB hg; replace HB := wb HB hb; clear hb hbox hg) | ((with_reducible refine gate_dst (N := 3) rfl ?_); refine box_event ?hg (N := 3) ?hd (cs := #[.slice A1 l1.length c1]) (t := 22) ?hr ?_; (case hd => rfl); (case hg => rfl); (case hr => first | (go_simp; done) | (go_simp; rfl)); intro gW hg w4 hbox hb; have BKW := Aside0.mk hbox; have GWW := gs HB hg; have NTW := nl BKT hg; replace BKT := kb BKT hb; replace HB := wb HB hb; clear hb hbox hg; have hcT : w4.cell? ⟨gT, 0, none⟩ = some (.int .i64 a0) := (blk_cell BKT.out 0).trans rfl; have hcW : w4.cell? ⟨gW, 0, none⟩ = some (.slice A1 l1.length c1) := (blk_cell BKW.out 0).trans rfl) | ((with_reducible refine gate_dst (N := 6) rfl ?_); refine box_event ?hg (N := 6) ?hd (cs := #[.int .i64 0]) (t := 3) ?hr ?_; (case hd => rfl); (case hg => rfl); (case hr => first | (go_simp; done) | (go_simp; rfl)); intro gA hg w5 hbox hb; have BKA := Aside0.mk hbox; have GWA := gs HB hg; have NTA := nl BKT hg; have NWA := nl BKW hg; replace BKT := kb BKT hb; replace BKW := kb BKW hb; replace HB := wb HB hb; clear hb hbox hg hcT hcW; have hcT : w5.cell? ⟨gT, 0, none⟩ = some (.int .i64 a0) := (blk_cell BKT.out 0).trans rfl; have hcW : w5.cell? ⟨gW, 0, none⟩ = some (.slice A1 l1.length c1) := (blk_cell BKW.out 0).trans rfl; have hcA : w5.cell? ⟨gA, 0, none⟩ = some (.int .i64 0) := (blk_cell BKA.out 0).trans rfl; have hfA := blk_frozen BKA.out 0; obtain ⟨hnTA, hnAT⟩ := n2 NTA; obtain ⟨hnWA, hnAW⟩ := n2 NWA) | ((with_reducible refine gate_dst (N := 20) rfl ?_); refine Kd.R_lit (Kd.int .i64) _ 3 ?hg (N := 20) ?hd (xs := ([a0] : List Int)) (inner := [.int .i64 a0]) (ok := fun _ => True) (okp := fun _ => True) ?hr ?hp (fun _ hk => hk) trivial (Below.refl _ _) (Nat.le_refl _) (by simp) ?_; (case hd => rfl); (case hg => rfl); (case hr => first | (go_simp; done) | (go_simp; rfl)); (case hp => exact (Reps.one (show Kd.M (Kd.int .i64) _ _ _ a0 [.int .i64 a0] from rfl) (Reps.none _ _))); intro v6 w6 ho hb hg_ hnew_; have HO := Aside0.mk (Kd.R_lower ho (below_size (bw HB))); have NOT := nb BKT hnew_; have NOW := nb BKW hnew_; have NOA := nb (g := gA) (o := .cells #[.int .i64 0] 3 (0, 0)) (W := w5.setCell ⟨gA, 0, none⟩ (.int .i64 0)) ⟨by refine blk_put (cs := #[.int .i64 0]) ?_ 0 _ rfl; exact BKA.out⟩ hnew_; replace BKA := Aside0.mk (blk_below (g := gA) (o := .cells #[.int .i64 0] 3 (0, 0)) (by refine pe ?_; refine blk_put (cs := #[.int .i64 0]) ?_ 0 _ rfl; exact BKA.out) hb); replace BKT := kb BKT hb; replace BKW := kb BKW hb; replace HB := wb HB hb; clear hb ho hg_ hnew_ hcT hcW hcA hfA; have hcW : w6.cell? ⟨gW, 0, none⟩ = some (.slice A1 l1.length c1) := (blk_cell BKW.out 0).trans rfl) | ((with_reducible refine gate_builtin (b := .append) (xs := #[.tmp 20, .tmp 21]) rfl ?_); at_builtin; refine Kd.R_append_rows (Kd.int .i64) w.heap.size rfl (.tmp 20) (.tmp 21) 22 3 (.int .i64 0) 8 rfl Tryz.underlying22 infoI rfl (by decide) (by omega) v6 ([a0] : List Int) l1 _ _ _ (fun _ => True) (fun _ => False) rfl rfl ?aO ?aR (fun _ _ h => h) (fun _ h => h.elim) (fun _ _ => trivial) (Below.refl _ _) ?aS ?aL ?_; (case aR => exact Kd.C_below HR.out (bw HB)); (case aO => exact HO.out); (case aS => exact below_size (bw HB)); (case aL => have := HL.out; simp; omega); have LTA := lt7 (W1 := w6) BKA; intro v7 w7 ho hb hg hat; replace BKT := kg BKT hg NOT; replace BKW := kg BKW hg NOW; replace BKA := kg BKA hg NOA; replace HB := Aside0.mk (pw_below_grown (bw HB) _ (below_size (bw HB)) hg (Kd.R_base HO.out)); have NOA7 := n7 NOA hg hat LTA; clear HO; have HO := Aside0.mk ho; clear ho hb hg hat hcW NOT NOW NOA LTA; obtain ⟨Ao, co, eo⟩ := Kd.R_slice HO.out; subst eo; obtain ⟨ad, hAo, hcells⟩ := cells_read (Kd.R_reads' HO.out).2.2 (by simp); subst hAo; have NAD : Aside0 (ad.block ≠ gA) := ⟨fun h => NOA7.out (by simp [Value.ownBlock, h])⟩; have HC7 := Aside0.mk hcells; clear hcells HO NOA7))
  go_loopg [8, 24] (l1.length + 1) (fun gk v8 v24 wr => ∃ (i : Nat) (z : Value), v8 = z ∧ v24 = .int .i64 i ∧ i ≤ l1.length + 1 ∧ l1.length + 1 - i ≤ gk ∧ Aside0 (∀ x ∈ (a0 :: l1).take i, bad x = false) ∧ Aside0 (wr.heap[gA]? = some (.cells #[.int .i64 (isum ((a0 :: l1).take i))] 3 (0, 0))) ∧ Aside0 (wr.heap[gT]? = some (.cells #[.int .i64 a0] 3 (0, 0))) ∧ Aside0 (wr.heap[gW]? = some (.cells #[.slice A1 l1.length c1] 22 (0, 0))) ∧ Aside0 (∀ i : Nat, i < ([a0] ++ l1).length → wr.cell? (ad.add i) = some (.int .i64 (rd ([a0] ++ l1) i))) ∧ Aside0 (Below w.heap.size w wr))
  case atStart => exact ⟨0, _, rfl, by go_num, by omega, by omega, ⟨fun x hx => by simp at hx⟩, BKA, BKT, BKW, HC7, HB⟩
  case round =>
    obtain ⟨i, z, rfl, rfl, hi, hgk, HP, BKA, BKT, BKW, HCi, HB⟩ := hrel
    by_cases hlt : i < l1.length + 1
    · have hlz : (i : Int) < (l1.length : Int) + 1 := by omega
      have hlzb : decide ((i : Int) < (l1.length : Int) + 1) = true := decide_eq_true hlz; have hci := HCi.out i (by simpa using hlt); (have i101 : (i : Int) ≤ 101 := by have := HL.out; omega); have hsb := isum_bd (([a0] ++ l1).take i) HP.out; have hsn := isum_take ([a0] ++ l1) i (by simpa using hlt); rw [show (a0 :: l1) = [a0] ++ l1 from rfl] at BKA; obtain ⟨x, hx⟩ : ∃ x, rd ([a0] ++ l1) i = x := ⟨_, rfl⟩; obtain ⟨s, hs⟩ : ∃ s, isum (([a0] ++ l1).take i) = s := ⟨_, rfl⟩; rw [hx] at hci hsn; rw [hs] at BKA hsb hsn; have HSN := Aside0.mk hsn; clear hs hsn; (have hln : (([a0] ++ l1).take i).length ≤ 101 := by have := List.length_take_le i ([a0] ++ l1); have := HL.out; simp only [List.length_append, List.length_cons, List.length_nil] at *; omega); (have hsb2 : 0 ≤ s ∧ s ≤ 1073741824 * 101 := by omega); clear hsb; have HX := Aside0.mk hx; clear hx; have ilt : i < ([a0] ++ l1).length := by simpa using hlt
      by_cases hb0 : x < 0
      · have x0 : decide (x < 0) = true := decide_eq_true hb0
        have HI := Aside0.mk ilt; clear ilt hln hsb2; go_wp2
        go_ret2
        exact ⟨_, rfl, Kd.R_nil _ _ _ _ _, bw HB⟩
      · by_cases hb1 : 1073741824 < x
        · have x0 : decide (x < 0) = false := decide_eq_false hb0
          have x1 : decide (1073741824 < x) = true := decide_eq_true hb1; have HI := Aside0.mk ilt; clear ilt hln hsb2; go_wp2
          go_ret2
          exact ⟨_, rfl, Kd.R_nil _ _ _ _ _, bw HB⟩
        · have hxb : 0 ≤ x ∧ x ≤ 1073741824 := by omega
          have HP1 : Aside0 (∀ y ∈ (a0 :: l1).take (i + 1), bad y = false) := ⟨fun y hy => by
            rw [show (a0 :: l1) = [a0] ++ l1 from rfl, List.take_succ_eq_append_getElem ilt, List.mem_append] at hy; rcases hy with hy | hy
            · exact HP.out y hy
            · have : y = x := by rw [← HX.out, rd_get _ _ ilt]; exact List.mem_singleton.1 hy
              subst this; simp only [bad, Bool.or_eq_false_iff, decide_eq_false_iff_not]; omega⟩
          have hsb := hsb2; clear hsb2 hln HX ilt hb0 hb1 HP; have x0 : decide (x < 0) = false := decide_eq_false (by omega); have x1 : decide (1073741824 < x) = false := decide_eq_false (by omega); obtain ⟨xb0, xb1⟩ := hxb; have sb0 := hsb.1; (have sb1 : s ≤ 1073741824 * 101 := by exact hsb.2); clear hsb; have hcA : wr.cell? ⟨gA, 0, none⟩ = some (.int .i64 s) := (blk_cell BKA.out 0).trans rfl; have hfA := blk_frozen BKA.out 0; go_wp2
          go_roundg (l1.length - i)
          case measure => omega
          case rel => exact ⟨i + 1, _, rfl, by go_num, by omega, by omega, HP1, ⟨by rw [show (a0 :: l1) = [a0] ++ l1 from rfl, HSN.out]; exact blk_put (cs := #[.int .i64 s]) BKA.out 0 _ rfl⟩, ⟨bq BKT⟩, ⟨bq BKW⟩, ⟨fun j hj => (cell_far (p := ⟨gA, 0, none⟩) (a := ad.add j) (by rw [show (ad.add j).block = ad.block from by unfold Addr.add; split <;> rfl]; exact NAD.out) _).trans (HCi.out j hj)⟩, ⟨bw HB⟩⟩
    · exfalso
      (have hil : (a0 :: l1).length ≤ i := by simp only [List.length_cons]; omega); obtain ⟨x, hx, hb⟩ := HG.out; have := HP.out x (by rw [List.take_of_length_le hil]; exact hx); rw [this] at hb
      cases hb
end Go.Proofs.YtbapkiclgkddcaaGreatDoor.Given

/- ratio.Apportion: its contract (for every list). -/
namespace Go.Proofs.YtbapkiclgkddcaaGreatDoor.Given
open Go.RowKit Go.Lib Go.Proofs.YtbapkiclgkddcaaGreatDoor.Short Go.Proofs.YtbapkiclgkddcaaGreatDoorW.PrintWords Go.Proofs.YtbapkiclgkddcaaGreatDoorW.PrintLast Go.Proofs.YtbapkiclgkddcaaGreatDoorW.PrintMore
set_option linter.unusedVariables false
def ratio_Apportion.f (a0 : Int) (l1 : List Int) : Option (List Int × Int) :=
  if 100 < l1.length then some ([], 3) else if (a0 :: l1).all (fun x => !bad x) = true then (if isum l1 = 0 then some ([], 10) else some (apOut a0 l1, 0)) else some ([], 2)
theorem ratio_Apportion.calls (a0 : Int) (A1 : Option Addr) (c1 : Nat) (l1 : List Int) (r1 : List Int) (r2 : Int) (w : World) (hr1 : Kd.C (Kd.int .i64) w A1 l1.length l1) (hc1 : l1.length ≤ c1) (h : ratio_Apportion.f a0 l1 = some (r1, r2)) :
    Calls Tryz.prog 34 #[.int .i64 a0, .slice A1 l1.length c1] w fun e w' => ∃ v0_ : Value, e = .returned (.tuple #[v0_, .int .i64 r2]) ∧ Kd.R (Kd.int .i64) 3 w' w.heap.size (fun _ => True) v0_ r1 ∧ Below w.heap.size w w' := by
  unfold ratio_Apportion.f at h
  by_cases hl : 100 < l1.length
  · rw [if_pos hl] at h
    simp only [Option.some.injEq, Prod.mk.injEq] at h; obtain ⟨rfl, rfl⟩ := h; exact ap_long a0 A1 c1 l1 w hr1 hc1 hl
  rw [if_neg hl] at h
  by_cases hg : (a0 :: l1).all (fun x => !bad x) = true
  · rw [if_pos hg] at h
    have hg2 : ∀ x ∈ a0 :: l1, bad x = false := fun x hx => by simpa using List.all_eq_true.1 hg x hx
    by_cases hS : isum l1 = 0
    · rw [if_pos hS] at h
      simp only [Option.some.injEq, Prod.mk.injEq] at h; obtain ⟨rfl, rfl⟩ := h; exact ap_zero a0 A1 c1 l1 w hr1 hc1 (by omega) hg2 hS
    · rw [if_neg hS] at h
      simp only [Option.some.injEq, Prod.mk.injEq] at h; obtain ⟨rfl, rfl⟩ := h
      have h0 : 0 < l1.length := by
        cases l1 with
        | nil => exact absurd rfl hS
        | cons y t => exact Nat.succ_pos _
      obtain ⟨adw, rfl, hcw⟩ := cells_read hr1 h0; exact ap_first a0 adw c1 l1 w hr1 hcw hc1 (by omega) (by omega) hg2 hS
  · rw [if_neg hg] at h
    simp only [Option.some.injEq, Prod.mk.injEq] at h; obtain ⟨rfl, rfl⟩ := h; refine ap_bad a0 A1 c1 l1 w hr1 hc1 (by omega) ?_; rw [Bool.not_eq_true, List.all_eq_false] at hg; obtain ⟨x, hx, hb⟩ := hg; exact ⟨x, hx, by simpa using hb⟩
end Go.Proofs.YtbapkiclgkddcaaGreatDoor.Given

-- Printed by gp.py (a program of this session's own, over the kit's printer) out of the translation; Lean checks it.
namespace Go.Proofs.YtbapkiclgkddcaaGreatDoor.G
open Go.Proofs.YtbapkiclgkddcaaGreatDoor.Given Go.Proofs.YtbapkiclgkddcaaGreatDoor.Short
open Go.RowKit Go.Proofs.YtbapkiclgkddcaaGreatDoorW.PrintWords Go.Proofs.YtbapkiclgkddcaaGreatDoorW.PrintLast Go.Proofs.YtbapkiclgkddcaaGreatDoorW.PrintMore
attribute [local go_sem] max2_int min2_int max_two min_two max_three min_three max_four min_four   -- for this text's walks alone
set_option linter.unusedVariables false
set_option linter.unusedSimpArgs false

/-! ### ratio_abs: function 36 -/
def ratio_abs.f (a0 : Int) : Option (Int) := if a0 < 0 then (some (IntKind.u64.wrap (wrap64 (-a0)))) else (some (IntKind.u64.wrap (a0)))
set_option maxHeartbeats 8000000 in
set_option maxRecDepth 100000 in
theorem ratio_abs.calls (a0 : Int) (r : Int) (w : World) (h : ratio_abs.f a0 = some r) :
  Calls Tryz.prog 36 #[.int .i64 a0] w fun e w' => e = .returned (.int .u64 r) ∧ Drawn0 w w' := by
 have H : (if a0 < 0 then (some (IntKind.u64.wrap (wrap64 (-a0)))) else (some (IntKind.u64.wrap (a0)))) = some r := h; clear h
 by_cases c2 : a0 < 0
 ·rw [if_pos c2] at H; have c2b0 : decide (a0 < 0) = true := decide_eq_true c2; clear c2; obtain rfl := Option.some.inj H; (go_enter Tryz.func36, Tryz.ntmps36); (go_wp2); (go_ret); exact ⟨by first | rfl | (simp; done) | (simp [*]; done), by repeat (first | exact Drawn0.refl _ | apply Drawn0.step)⟩
 ·rw [if_neg c2] at H; have c2b0 : decide (a0 < 0) = false := decide_eq_false c2; clear c2; obtain rfl := Option.some.inj H; (go_enter Tryz.func36, Tryz.ntmps36); (go_wp2); (go_ret); exact ⟨by first | rfl | (simp; done) | (simp [*]; done), by repeat (first | exact Drawn0.refl _ | apply Drawn0.step)⟩

end Go.Proofs.YtbapkiclgkddcaaGreatDoor.G

-- Printed by gp.py (a program of this session's own, over the kit's printer) out of the translation; Lean checks it.
namespace Go.Proofs.YtbapkiclgkddcaaGreatDoor.G
open Go.Proofs.YtbapkiclgkddcaaGreatDoor.Given Go.Proofs.YtbapkiclgkddcaaGreatDoor.Short
open Go.RowKit Go.Proofs.YtbapkiclgkddcaaGreatDoorW.PrintWords Go.Proofs.YtbapkiclgkddcaaGreatDoorW.PrintLast Go.Proofs.YtbapkiclgkddcaaGreatDoorW.PrintMore
attribute [local go_sem] max2_int min2_int max_two min_two max_three min_three max_four min_four   -- for this text's walks alone
set_option linter.unusedVariables false
set_option linter.unusedSimpArgs false

/-! ### ratio_New: function 33 -/
def ratio_New.f (k : Nat) (a0 : Int) (a1 : Int) : Option (Int × Int × Int) := if a1 = 0 then (some (0, 0, 2)) else ((ratio_abs.f a0).bind fun t328 => ((ratio_abs.f a1).bind fun t329 => ((ratio_lowest.f k ((decide (a0 < 0)) != (decide (a1 < 0))) 0 t328 t329).bind fun bt330 => (some (bt330.1, bt330.2.1, bt330.2.2)))))
theorem ratio_New.mono : ∀ a0 a1 k, LeO (ratio_New.f k a0 a1) (ratio_New.f (k + 1) a0 a1) := by
 intro a0 a1 k; unfold ratio_New.f
 repeat' first
   | (with_reducible exact ratio_lowest.mono _ _ _ _ _)
   | (with_reducible exact LeO.refl _)
   | (with_reducible exact LeO.none _)
   | (with_reducible refine LeO.ite ?_ ?_)
   | (with_reducible refine LeO.bind ?_ (fun _ => ?_))
   | exact ratio_lowest.mono _ _ _ _ _
   | exact LeO.none _
   | refine LeO.ite ?_ ?_
   | refine LeO.bind ?_ (fun _ => ?_)
set_option maxHeartbeats 8000000 in
set_option maxRecDepth 100000 in
theorem ratio_New.calls (k : Nat) (a0 : Int) (a1 : Int) (r1 : Int) (r2 : Int) (r3 : Int) (w : World) (h : ratio_New.f k a0 a1 = some (r1, r2, r3)) :
  Calls Tryz.prog 33 #[.int .i64 a0, .int .i64 a1] w fun e w' => e = .returned (.tuple #[.agg #[.int .i64 r1, .int .i64 r2], .int .i64 r3]) ∧ Below w.heap.size w w' := by
 have hu24 := Tryz.underlying24; have hu58 := Tryz.underlying58; have HB := Aside0.mk (Below.refl w.heap.size w); have H : (if a1 = 0 then (some (0, 0, 2)) else ((ratio_abs.f a0).bind fun t328 => ((ratio_abs.f a1).bind fun t329 => ((ratio_lowest.f k ((decide (a0 < 0)) != (decide (a1 < 0))) 0 t328 t329).bind fun bt330 => (some (bt330.1, bt330.2.1, bt330.2.2)))))) = some (r1, r2, r3) := h; clear h
 by_cases c3 : a1 = 0
 ·rw [if_pos c3] at H; have c3b0 : (a1 == 0) = true := beq_iff_eq.mpr c3; have c3b1 : (a1 != 0) = false := bne_eq_false_iff_eq.mpr c3; clear c3; simp only [Option.some.injEq, Prod.mk.injEq] at H; obtain ⟨rfl, rfl, rfl⟩ := H; (go_enter Tryz.func33, Tryz.ntmps33); (go_wp2_with (first | ((with_reducible refine gate_dst (N := 4) rfl ?_); refine bx (N := 4) (cs := #[.int .i64 0, .int .i64 0]) (t := 24) ?_; intro gb327 hg w4 hbox hb; have BK327 := Aside0.mk (hbox); have GW327 := gs HB hg; have GE327 := gs HB hg; replace HB := wb HB hb; clear hb hbox hg; have hcz5_0 : w4.cell? ⟨gb327, 0, none⟩ = some (.int .i64 0) := bc BK327 0; have hcz5_1 : w4.cell? ⟨gb327, 1, none⟩ = some (.int .i64 0) := bc BK327 1; have hfz5_0 := blk_frozen BK327.out 0; have hfz5_1 := blk_frozen BK327.out 1))); refine bodyPost_ret (results_ct rfl _ _ gb327 24 #[.int .i64 0, .int .i64 0] (0, 0) _ rfl (by refine pe ?_; refine blk_put (cs := #[.int .i64 0, .int .i64 0]) ?_ 1 _ rfl; refine pe ?_; refine blk_put (cs := #[.int .i64 0, .int .i64 0]) ?_ 0 _ rfl; refine pe ?_; exact BK327.out) Tryz.underlying24 rfl (by kernel_rfl)) rfl ?_; exact ⟨by first | rfl | (simp [errW_none, errW_some] <;> rfl) | (simp [*, errW_none, errW_some] <;> rfl), bw HB⟩
 ·rw [if_neg c3] at H; have c3b0 : (a1 == 0) = false := beq_eq_false_iff_ne.mpr c3; have c3b1 : (a1 != 0) = true := bne_iff_ne.mpr c3; replace H := Option.bind_eq_some_iff.mp H; obtain ⟨t328, A60, H⟩ := H; (try dsimp only at H); have A6 := Aside0.mk A60; clear A60; replace H := Option.bind_eq_some_iff.mp H; obtain ⟨t329, A70, H⟩ := H; (try dsimp only at H); have A7 := Aside0.mk A70; clear A70; replace H := Option.bind_eq_some_iff.mp H; obtain ⟨⟨t330, t331, t332⟩, A80, H⟩ := H; (try dsimp only at H); have A8 := Aside0.mk A80; clear A80; simp only [Option.some.injEq, Prod.mk.injEq] at H; obtain ⟨rfl, rfl, rfl⟩ := H; (go_enter Tryz.func33, Tryz.ntmps33); (go_wp2_with (first | ((with_reducible refine gate_dst (N := 4) rfl ?_); refine bx (N := 4) (cs := #[.int .i64 0, .int .i64 0]) (t := 24) ?_; intro gb327 hg w9 hbox hb; have BK327 := Aside0.mk (hbox); have GW327 := gs HB hg; have GE327 := gs HB hg; replace HB := wb HB hb; clear hb hbox hg) | ((with_reducible refine gate_callee (f := 36) rfl ?_); refine gl (some 15) Tryz.func36 #[.int .i64 a0] ?_; (with_reducible refine (ratio_abs.calls a0 t328 _ A6.out).mono ?_); rintro e w' ⟨rfl, ⟨nd, rfl⟩⟩; refine ⟨_, rfl, ?_⟩; (try (rw [drewN_self w9]; generalize hq_ : World.drewN w9 _ = w9; replace BK327 : Aside0 (w9.heap[gb327]? = some (.cells #[.int .i64 0, .int .i64 0] 24 (0, 0))) := ⟨by rw [← hq_]; exact (bq BK327)⟩; replace HB : Aside0 (Below w.heap.size w w9) := ⟨by rw [← hq_]; exact (bw HB)⟩; clear hq_))) | ((with_reducible refine gate_callee (f := 36) rfl ?_); refine gl (some 18) Tryz.func36 #[.int .i64 a1] ?_; (with_reducible refine (ratio_abs.calls a1 t329 _ A7.out).mono ?_); rintro e w' ⟨rfl, ⟨nd, rfl⟩⟩; refine ⟨_, rfl, ?_⟩; (try (rw [drewN_self w9]; generalize hq_ : World.drewN w9 _ = w9; replace BK327 : Aside0 (w9.heap[gb327]? = some (.cells #[.int .i64 0, .int .i64 0] 24 (0, 0))) := ⟨by rw [← hq_]; exact (bq BK327)⟩; replace HB : Aside0 (Below w.heap.size w w9) := ⟨by rw [← hq_]; exact (bw HB)⟩; clear hq_))) | ((with_reducible refine gate_callee (f := 31) rfl ?_); refine gl (some 19) Tryz.func31 #[.agg #[.bool ((decide (a0 < 0)) != (decide (a1 < 0))), .int .u64 0, .int .u64 t328], .int .u64 t329] ?_; (with_reducible refine (ratio_lowest.calls k ((decide (a0 < 0)) != (decide (a1 < 0))) 0 t328 t329 t330 t331 t332 _ A8.out).mono ?_); rintro e w10 ⟨rfl, hb⟩; refine ⟨_, rfl, ?_⟩; replace BK327 := kb BK327 hb; replace HB := wb HB hb; (try clear hb); (try clear hb2); (try clear hk); (try clear hi); have hcz11_0 : w10.cell? ⟨gb327, 0, none⟩ = some (.int .i64 0) := bc BK327 0; have hcz11_1 : w10.cell? ⟨gb327, 1, none⟩ = some (.int .i64 0) := bc BK327 1; have hfz11_0 := blk_frozen BK327.out 0; have hfz11_1 := blk_frozen BK327.out 1))); refine bodyPost_ret (results_ct rfl _ _ gb327 24 #[.int .i64 t330, .int .i64 t331] (0, 0) _ rfl (by refine pe ?_; refine blk_put (cs := #[.int .i64 t330, .int .i64 0]) ?_ 1 _ rfl; refine pe ?_; refine blk_put (cs := #[.int .i64 0, .int .i64 0]) ?_ 0 _ rfl; refine pe ?_; exact BK327.out) Tryz.underlying24 rfl (by kernel_rfl)) rfl ?_; exact ⟨by first | rfl | (simp [errW_none, errW_some] <;> rfl) | (simp [*, errW_none, errW_some] <;> rfl), bw HB⟩

end Go.Proofs.YtbapkiclgkddcaaGreatDoor.G

-- Printed by gp.py (a program of this session's own, over the kit's printer) out of the translation; Lean checks it.
namespace Go.Proofs.YtbapkiclgkddcaaGreatDoor.G
open Go.Proofs.YtbapkiclgkddcaaGreatDoor.Given Go.Proofs.YtbapkiclgkddcaaGreatDoor.Short
open Go.RowKit Go.Proofs.YtbapkiclgkddcaaGreatDoorW.PrintWords Go.Proofs.YtbapkiclgkddcaaGreatDoorW.PrintLast Go.Proofs.YtbapkiclgkddcaaGreatDoorW.PrintMore
attribute [local go_sem] max2_int min2_int max_two min_two max_three min_three max_four min_four   -- for this text's walks alone
set_option linter.unusedVariables false
set_option linter.unusedSimpArgs false

attribute [local go_sem high] eqA24
/-! ### awardingbodylaw01_awake: function 11 -/
def awardingbodylaw01_awake.f (k : Nat)  : Option (Bool) := (ratio_New.f k 6 (-4)).bind fun bt333 => ((ratio_Apportion.f 3 (([5, 3, 0] : List Int))).bind fun bt340 => (if bt333.2.2 = 0 then (if (bt333.1 == (-3) && (bt333.2.1 == 2)) = true then (if bt340.2 = 0 then (if (bt340.1.length : Int) = 3 then (if 0 < (bt340.1.length : Int) then (if (rd bt340.1 0) = 2 then (if 1 < (bt340.1.length : Int) then (if (rd bt340.1 1) = 1 then (if 2 < (bt340.1.length : Int) then (some ((rd bt340.1 2) == 0)) else (none)) else (some false)) else (none)) else (some false)) else (none)) else (some false)) else (some false)) else (some false)) else (some false)))
theorem awardingbodylaw01_awake.mono : ∀ k, LeO (awardingbodylaw01_awake.f k ) (awardingbodylaw01_awake.f (k + 1) ) := by
 intro  k; unfold awardingbodylaw01_awake.f
 repeat' first
   | (with_reducible exact ratio_New.mono _ _ _)
   | (with_reducible exact LeO.refl _)
   | (with_reducible exact LeO.none _)
   | (with_reducible refine LeO.ite ?_ ?_)
   | (with_reducible refine LeO.bind ?_ (fun _ => ?_))
   | exact ratio_New.mono _ _ _
   | exact LeO.none _
   | refine LeO.ite ?_ ?_
   | refine LeO.bind ?_ (fun _ => ?_)
set_option maxHeartbeats 8000000 in
set_option maxRecDepth 100000 in
theorem awardingbodylaw01_awake.calls (k : Nat)  (r : Bool) (w : World) (h : awardingbodylaw01_awake.f k  = some r) :
  Calls Tryz.prog 11 #[] w fun e w' => e = .returned (.bool r) ∧ Below w.heap.size w w' := by
 have hu24 := Tryz.underlying24; have HB := Aside0.mk (Below.refl w.heap.size w); have H : ((ratio_New.f k 6 (-4)).bind fun bt333 => ((ratio_Apportion.f 3 (([5, 3, 0] : List Int))).bind fun bt340 => (if bt333.2.2 = 0 then (if (bt333.1 == (-3) && (bt333.2.1 == 2)) = true then (if bt340.2 = 0 then (if (bt340.1.length : Int) = 3 then (if 0 < (bt340.1.length : Int) then (if (rd bt340.1 0) = 2 then (if 1 < (bt340.1.length : Int) then (if (rd bt340.1 1) = 1 then (if 2 < (bt340.1.length : Int) then (some ((rd bt340.1 2) == 0)) else (none)) else (some false)) else (none)) else (some false)) else (none)) else (some false)) else (some false)) else (some false)) else (some false)))) = some r := h; clear h; replace H := Option.bind_eq_some_iff.mp H; obtain ⟨⟨t333, t334, t335⟩, A10, H⟩ := H; (try dsimp only at H); have A1 := Aside0.mk A10; clear A10; obtain ⟨y337, hy337⟩ : ∃ y_ : List Int, y_ = (([5, 3, 0] : List Int)) := ⟨_, rfl⟩; (replace H : ((ratio_Apportion.f 3 y337).bind fun bt340 => (if t335 = 0 then (if (t333 == (-3) && (t334 == 2)) = true then (if bt340.2 = 0 then (if (bt340.1.length : Int) = 3 then (if 0 < (bt340.1.length : Int) then (if (rd bt340.1 0) = 2 then (if 1 < (bt340.1.length : Int) then (if (rd bt340.1 1) = 1 then (if 2 < (bt340.1.length : Int) then (some ((rd bt340.1 2) == 0)) else (none)) else (some false)) else (none)) else (some false)) else (none)) else (some false)) else (some false)) else (some false)) else (some false))) = some r := by first | (rw [hy337]; with_reducible exact H) | (have H2_ := (Option.bind_some _ _).symm.trans H; rw [hy337]; with_reducible exact H2_) | (have H2_ := (Option.bind_some _ _).symm.trans H; with_reducible exact H2_) | with_reducible exact H | (rw [hy337]; exact H) | exact H); have Ny337 := Aside0.mk hy337; clear hy337; replace H := Option.bind_eq_some_iff.mp H; obtain ⟨⟨t340, t341⟩, A20, H⟩ := H; (try dsimp only at H); have A2 := Aside0.mk A20; clear A20; have HC3 := Aside0.mk H; clear H; go_enter Tryz.func11, Tryz.ntmps11
 go_upto_region 3 with (first | ((with_reducible refine gate_callee (f := 33) rfl ?_); refine gl (some 6) Tryz.func33 #[.int .i64 6, .int .i64 (-4)] ?_; (with_reducible refine (ratio_New.calls k 6 (-4) t333 t334 t335 _ A1.out).mono ?_); rintro e w4 ⟨rfl, hb⟩; refine ⟨_, rfl, ?_⟩; replace HB := wb HB hb; (try clear hb); (try clear hb2); (try clear hk); (try clear hi)) | ((with_reducible refine gate_dst (N := 1) rfl ?_); (try (refine gate_guard (by rfl) ?_; dsimp only)); refine bx (N := 1) (cs := #[.int .i64 0, .int .i64 0]) (t := 24) ?_; intro gb336 hg w5 hbox hb; have BK336 := Aside0.mk (hbox); have GW336 := gs HB hg; have GE336 := gs HB hg; replace HB := wb HB hb; clear hb hbox hg; have hcz6_0 : w5.cell? ⟨gb336, 0, none⟩ = some (.int .i64 0) := bc BK336 0; have hcz6_1 : w5.cell? ⟨gb336, 1, none⟩ = some (.int .i64 0) := bc BK336 1; have hfz6_0 := blk_frozen BK336.out 0; have hfz6_1 := blk_frozen BK336.out 1) | ((with_reducible refine gate_dst (N := 10) rfl ?_); (try (refine gate_guard (by rfl) ?_; dsimp only)); refine Kd.R_lit (Kd.int .i64) _ 3 ?hg (N := 10) ?hd (xs := ([5, 3, 0] : List Int)) (inner := [.int .i64 5, .int .i64 3, .int .i64 0]) (ok := fun _ => True) (okp := fun _ => True) ?hr ?hp (fun _ hk => hk) trivial (Below.refl _ _) (Nat.le_refl _) (by simp) ?_; (case hd => rfl); (case hg => rfl); (case hr => first | (go_simp; done) | (go_simp; rfl)); (case hp => exact (Reps.one (show Kd.M (Kd.int .i64) _ _ _ 5 [.int .i64 5] from rfl) (Reps.one (show Kd.M (Kd.int .i64) _ _ _ 3 [.int .i64 3] from rfl) (Reps.one (show Kd.M (Kd.int .i64) _ _ _ 0 [.int .i64 0] from rfl) (Reps.none _ _))))); intro v338 w7 ho8 hb hg_ hnew_; clear hg_ hnew_; (first | rw [← Ny337.out] at ho8 | (simp only [Int.reduceToNat] at ho8; rw [← Ny337.out] at ho8)); have HO339 := Aside0.mk (Kd.R_lower ho8 (below_size (bw HB))); replace BK336 := Aside0.mk (blk_below (g := gb336) (o := .cells #[.int .i64 t333, .int .i64 t334] 24 (0, 0)) (by refine pe ?_; refine blk_put (cs := #[.int .i64 t333, .int .i64 0]) ?_ 1 _ rfl; refine pe ?_; refine blk_put (cs := #[.int .i64 0, .int .i64 0]) ?_ 0 _ rfl; refine pe ?_; exact BK336.out) hb); replace HB := wb HB hb; clear hb ho8; obtain ⟨Ao9, co9, eo9⟩ := Kd.R_slice HO339.out; subst eo9) | ((with_reducible refine gate_callee (f := 34) rfl ?_); refine gl (some 11) Tryz.func34 #[.int .i64 3, .slice Ao9 y337.length co9] ?_; (with_reducible refine (ratio_Apportion.calls 3 _ _ y337 t340 t341 _ ?side1 ?side2 A2.out).mono ?_); (case side1 => repeat (first | exact (Kd.R_reads' HO339.out).2.2 | (with_reducible refine Kd.C_alloc ?_ _) | (with_reducible refine Kd.C_drewN ?_ _) | (with_reducible refine Kd.C_drew ?_))); (case side2 => exact (Kd.R_reads' HO339.out).2.1); rintro e w10 ⟨v342, rfl, ho0, hb⟩; refine ⟨_, rfl, ?_⟩; have HO343 := Aside0.mk (Kd.R_lower (Kd.R_new' ho0 (Kd.R_lt (by (with_reducible repeat (first | apply Kd.R_alloc | apply Kd.R_drewN | apply Kd.R_drew)); exact HO339.out))) (below_size (bw HB))); replace HO339 := Aside0.mk (Kd.R_elder' (by (with_reducible repeat (first | apply Kd.R_alloc | apply Kd.R_drewN | apply Kd.R_drew)); exact HO339.out) (Kd.R_base ho0) hb); replace BK336 := kb BK336 hb; replace HB := wb HB hb; (try clear hb); (try clear hb2); (try clear hk); (try clear hi); (try clear ho0)))
 (try simp only [Act.put, List.setIfInBounds_toArray, List.set_cons_zero, List.set_cons_succ]); have H := HC3.out; clear HC3
 by_cases c11 : t335 = 0
 ·rw [if_pos c11] at H; have c11b0 : (t335 == 0) = true := beq_iff_eq.mpr c11; have c11b1 : (t335 != 0) = false := bne_eq_false_iff_eq.mpr c11; clear c11
  (first | rw [c11b0] | (simp only [i64_w, i32_w]; rw [c11b0]) | skip)
  by_cases c12 : (t333 == (-3) && (t334 == 2)) = true
  ·rw [if_pos c12] at H; have c12b0 : (t333 == (-3) && (t334 == 2)) = true := c12; (try (have c12b1 : decide (t333 = (-3) && (t334 == 2)) = true := by simpa using c12)); (try (have c12b2 : (t333 == (-3) && (t334 == 2)) = true := by simpa using c12)); clear c12
   by_cases c13 : t341 = 0
   ·rw [if_pos c13] at H; have c13b0 : (t341 == 0) = true := beq_iff_eq.mpr c13; have c13b1 : (t341 != 0) = false := bne_eq_false_iff_eq.mpr c13; clear c13
    by_cases c14 : (t340.length : Int) = 3
    ·rw [if_pos c14] at H; have c14b0 : ((t340.length : Int) == 3) = true := beq_iff_eq.mpr c14; have c14b1 : ((t340.length : Int) != 3) = false := bne_eq_false_iff_eq.mpr c14; clear c14
     by_cases c15 : 0 < (t340.length : Int)
     ·rw [if_pos c15] at H; have c15b0 : decide (0 < (t340.length : Int)) = true := decide_eq_true c15; have c15b1 : decide (0 < t340.length) = true := decide_eq_true (by omega); clear c15
      by_cases c16 : (rd t340 0) = 2
      ·rw [if_pos c16] at H; have c16b0 : ((rd t340 0) == 2) = true := beq_iff_eq.mpr c16; have c16b1 : ((rd t340 0) != 2) = false := bne_eq_false_iff_eq.mpr c16; clear c16
       by_cases c17 : 1 < (t340.length : Int)
       ·rw [if_pos c17] at H; have c17b0 : decide (1 < (t340.length : Int)) = true := decide_eq_true c17; have c17b1 : decide (1 < t340.length) = true := decide_eq_true (by omega); clear c17
        by_cases c18 : (rd t340 1) = 1
        ·rw [if_pos c18] at H; have c18b0 : ((rd t340 1) == 1) = true := beq_iff_eq.mpr c18; have c18b1 : ((rd t340 1) != 1) = false := bne_eq_false_iff_eq.mpr c18; clear c18
         by_cases c19 : 2 < (t340.length : Int)
         ·rw [if_pos c19] at H; have c19b0 : decide (2 < (t340.length : Int)) = true := decide_eq_true c19; have c19b1 : decide (2 < t340.length) = true := decide_eq_true (by omega); clear c19; obtain rfl := Option.some.inj H; have hcz20_0 : w10.cell? ⟨gb336, 0, none⟩ = some (.int .i64 t333) := bc BK336 0; have hcz20_1 : w10.cell? ⟨gb336, 1, none⟩ = some (.int .i64 t334) := bc BK336 1; have hfz20_0 := blk_frozen BK336.out 0; have hfz20_1 := blk_frozen BK336.out 1; obtain ⟨Ao21, co21, eo21⟩ := Kd.R_slice HO343.out; subst eo21; have p344 : 0 ≤ (0 : Int) := (by omega); have q344 : 0 < (t340.length : Int) := of_decide_eq_true (by first | (with_reducible assumption) | assumption); obtain ⟨ad344, e344, hx344_0⟩ := Kd.at_int (Kd.R_reads' HO343.out).2.2 0 p344 q344
          cases e344
          have qi344 : (0 < t340.length) = True := eq_true (by omega); (try rw [show ((0 : Int)).toNat = 0 from rfl] at hx344_0); (try rw [Addr.add_zero'] at hx344_0); replace p344 := eq_true p344; replace q344 := eq_true q344; have p345 : 0 ≤ (1 : Int) := (by omega); have q345 : 1 < (t340.length : Int) := of_decide_eq_true (by first | (with_reducible assumption) | assumption); obtain ⟨ad345, e345, hx345_0⟩ := Kd.at_int (Kd.R_reads' HO343.out).2.2 1 p345 q345; obtain rfl : ad344 = ad345 := (by injection e345); (try simp only [show (1 : Int).toNat = 1 from rfl, Nat.reduceMul, Nat.reduceEqDiff, Go.Addr.add, ↓reduceIte] at hx345_0); have qi345 : (1 < t340.length) = True := eq_true (by omega); (try rw [show ((1 : Int)).toNat = 1 from rfl] at hx345_0); replace p345 := eq_true p345; replace q345 := eq_true q345; have p346 : 0 ≤ (2 : Int) := (by omega); have q346 : 2 < (t340.length : Int) := of_decide_eq_true (by first | (with_reducible assumption) | assumption); obtain ⟨ad346, e346, hx346_0⟩ := Kd.at_int (Kd.R_reads' HO343.out).2.2 2 p346 q346; obtain rfl : ad344 = ad346 := (by injection e346); (try simp only [show (2 : Int).toNat = 2 from rfl, Nat.reduceMul, Nat.reduceEqDiff, Go.Addr.add, ↓reduceIte] at hx346_0); have qi346 : (2 < t340.length) = True := eq_true (by omega); (try rw [show ((2 : Int)).toNat = 2 from rfl] at hx346_0); replace p346 := eq_true p346; replace q346 := eq_true q346; (go_wp2); (go_ret); exact ⟨by first | rfl | (simp [errW_none, errW_some] <;> rfl) | (simp [*, errW_none, errW_some] <;> rfl), bw HB⟩
         ·rw [if_neg c19] at H; exact absurd H (by simp)
        ·rw [if_neg c18] at H; have c18b0 : ((rd t340 1) == 1) = false := beq_eq_false_iff_ne.mpr c18; have c18b1 : ((rd t340 1) != 1) = true := bne_iff_ne.mpr c18; obtain rfl := Option.some.inj H; have hcz22_0 : w10.cell? ⟨gb336, 0, none⟩ = some (.int .i64 t333) := bc BK336 0; have hcz22_1 : w10.cell? ⟨gb336, 1, none⟩ = some (.int .i64 t334) := bc BK336 1; have hfz22_0 := blk_frozen BK336.out 0; have hfz22_1 := blk_frozen BK336.out 1; obtain ⟨Ao23, co23, eo23⟩ := Kd.R_slice HO343.out; subst eo23; have p344 : 0 ≤ (0 : Int) := (by omega); have q344 : 0 < (t340.length : Int) := of_decide_eq_true (by first | (with_reducible assumption) | assumption); obtain ⟨ad344, e344, hx344_0⟩ := Kd.at_int (Kd.R_reads' HO343.out).2.2 0 p344 q344
         cases e344
         have qi344 : (0 < t340.length) = True := eq_true (by omega); (try rw [show ((0 : Int)).toNat = 0 from rfl] at hx344_0); (try rw [Addr.add_zero'] at hx344_0); replace p344 := eq_true p344; replace q344 := eq_true q344; have p345 : 0 ≤ (1 : Int) := (by omega); have q345 : 1 < (t340.length : Int) := of_decide_eq_true (by first | (with_reducible assumption) | assumption); obtain ⟨ad345, e345, hx345_0⟩ := Kd.at_int (Kd.R_reads' HO343.out).2.2 1 p345 q345; obtain rfl : ad344 = ad345 := (by injection e345); (try simp only [show (1 : Int).toNat = 1 from rfl, Nat.reduceMul, Nat.reduceEqDiff, Go.Addr.add, ↓reduceIte] at hx345_0); have qi345 : (1 < t340.length) = True := eq_true (by omega); (try rw [show ((1 : Int)).toNat = 1 from rfl] at hx345_0); replace p345 := eq_true p345; replace q345 := eq_true q345; (go_wp2); (go_ret); exact ⟨by first | rfl | (simp [errW_none, errW_some] <;> rfl) | (simp [*, errW_none, errW_some] <;> rfl), bw HB⟩
       ·rw [if_neg c17] at H; exact absurd H (by simp)
      ·rw [if_neg c16] at H; have c16b0 : ((rd t340 0) == 2) = false := beq_eq_false_iff_ne.mpr c16; have c16b1 : ((rd t340 0) != 2) = true := bne_iff_ne.mpr c16; obtain rfl := Option.some.inj H; have hcz24_0 : w10.cell? ⟨gb336, 0, none⟩ = some (.int .i64 t333) := bc BK336 0; have hcz24_1 : w10.cell? ⟨gb336, 1, none⟩ = some (.int .i64 t334) := bc BK336 1; have hfz24_0 := blk_frozen BK336.out 0; have hfz24_1 := blk_frozen BK336.out 1; obtain ⟨Ao25, co25, eo25⟩ := Kd.R_slice HO343.out; subst eo25; have p344 : 0 ≤ (0 : Int) := (by omega); have q344 : 0 < (t340.length : Int) := of_decide_eq_true (by first | (with_reducible assumption) | assumption); obtain ⟨ad344, e344, hx344_0⟩ := Kd.at_int (Kd.R_reads' HO343.out).2.2 0 p344 q344
       cases e344
       have qi344 : (0 < t340.length) = True := eq_true (by omega); (try rw [show ((0 : Int)).toNat = 0 from rfl] at hx344_0); (try rw [Addr.add_zero'] at hx344_0); replace p344 := eq_true p344; replace q344 := eq_true q344; (go_wp2); (go_ret); exact ⟨by first | rfl | (simp [errW_none, errW_some] <;> rfl) | (simp [*, errW_none, errW_some] <;> rfl), bw HB⟩
     ·rw [if_neg c15] at H; exact absurd H (by simp)
    ·rw [if_neg c14] at H; have c14b0 : ((t340.length : Int) == 3) = false := beq_eq_false_iff_ne.mpr c14; have c14b1 : ((t340.length : Int) != 3) = true := bne_iff_ne.mpr c14; obtain rfl := Option.some.inj H; have hcz26_0 : w10.cell? ⟨gb336, 0, none⟩ = some (.int .i64 t333) := bc BK336 0; have hcz26_1 : w10.cell? ⟨gb336, 1, none⟩ = some (.int .i64 t334) := bc BK336 1; have hfz26_0 := blk_frozen BK336.out 0; have hfz26_1 := blk_frozen BK336.out 1; obtain ⟨Ao27, co27, eo27⟩ := Kd.R_slice HO343.out; subst eo27; (go_wp2); (go_ret); exact ⟨by first | rfl | (simp [errW_none, errW_some] <;> rfl) | (simp [*, errW_none, errW_some] <;> rfl), bw HB⟩
   ·rw [if_neg c13] at H; have c13b0 : (t341 == 0) = false := beq_eq_false_iff_ne.mpr c13; have c13b1 : (t341 != 0) = true := bne_iff_ne.mpr c13; obtain rfl := Option.some.inj H; have hcz28_0 : w10.cell? ⟨gb336, 0, none⟩ = some (.int .i64 t333) := bc BK336 0; have hcz28_1 : w10.cell? ⟨gb336, 1, none⟩ = some (.int .i64 t334) := bc BK336 1; have hfz28_0 := blk_frozen BK336.out 0; have hfz28_1 := blk_frozen BK336.out 1; (go_wp2); (go_ret); exact ⟨by first | rfl | (simp [errW_none, errW_some] <;> rfl) | (simp [*, errW_none, errW_some] <;> rfl), bw HB⟩
  ·rw [if_neg c12] at H; (have c12b0 : (t333 == (-3) && (t334 == 2)) = false := by simpa using c12); (try (have c12b1 : decide (t333 = (-3) && (t334 == 2)) = false := by simpa using c12)); (try (have c12b2 : (t333 == (-3) && (t334 == 2)) = false := by simpa using c12)); (try (have c12b3 : ¬ (t333 = (-3) && (t334 == 2)) := by simpa using c12)); clear c12; obtain rfl := Option.some.inj H; have hcz29_0 : w10.cell? ⟨gb336, 0, none⟩ = some (.int .i64 t333) := bc BK336 0; have hcz29_1 : w10.cell? ⟨gb336, 1, none⟩ = some (.int .i64 t334) := bc BK336 1; have hfz29_0 := blk_frozen BK336.out 0; have hfz29_1 := blk_frozen BK336.out 1; (go_wp2); (go_ret); exact ⟨by first | rfl | (simp [errW_none, errW_some] <;> rfl) | (simp [*, errW_none, errW_some] <;> rfl), bw HB⟩
 ·rw [if_neg c11] at H; have c11b0 : (t335 == 0) = false := beq_eq_false_iff_ne.mpr c11; have c11b1 : (t335 != 0) = true := bne_iff_ne.mpr c11
  (first | rw [c11b0] | (simp only [i64_w, i32_w]; rw [c11b0]) | skip)
  obtain rfl := Option.some.inj H; (go_wp2); (go_ret); exact ⟨by first | rfl | (simp [errW_none, errW_some] <;> rfl) | (simp [*, errW_none, errW_some] <;> rfl), bw HB⟩

end Go.Proofs.YtbapkiclgkddcaaGreatDoor.G

-- Printed by gp.py (a program of this session's own, over the kit's printer) out of the translation; Lean checks it.
namespace Go.Proofs.YtbapkiclgkddcaaGreatDoor.G
open Go.Proofs.YtbapkiclgkddcaaGreatDoor.Given Go.Proofs.YtbapkiclgkddcaaGreatDoor.Short
open Go.RowKit Go.Proofs.YtbapkiclgkddcaaGreatDoorW.PrintWords Go.Proofs.YtbapkiclgkddcaaGreatDoorW.PrintLast Go.Proofs.YtbapkiclgkddcaaGreatDoorW.PrintMore
attribute [local go_sem] max2_int min2_int max_two min_two max_three min_three max_four min_four   -- for this text's walks alone
set_option linter.unusedVariables false
set_option linter.unusedSimpArgs false

/-- A state of type 41 at block g of W; what its slices lead to came in by w0. -/
def IsS41 (w0 W : World) (g : Nat) (f0 : List Int) (f1 : Int) : Prop := ∃ A0 c0, W.heap[g]? = some (.cells #[.slice A0 f0.length c0, .int .i64 f1] 41 (0, 0)) ∧ w0.heap.size ≤ g ∧ Kd.C (Kd.int .i64) w0 A0 f0.length f0
theorem IsS41.grown {w0 W : World} {g : Nat} {f0 : List Int} {f1 : Int} {W1 : World} {row : Option Nat} (h : IsS41 w0 W g f0 f1) (hw : W.grownBy W1 row) (hne : some g ≠ row) : IsS41 w0 W1 g f0 f1 := by
 obtain ⟨A0, c0, hb, hg, hr0⟩ := h; exact ⟨A0, c0, blk_grown hb hw hne, hg, hr0⟩
theorem IsS41.own_neN {w0 W : World} {g : Nat} {f0 : List Int} {f1 : Int} {α : Type} {d : Kd α} {e : Nat} {base : Nat} {ok : Nat → Prop} {v : Value} {xs : List α} (h : IsS41 w0 W g f0 f1) (ho : Kd.N d e W base ok v xs) (ht : e ≠ 41) : some g ≠ v.ownBlock := by
 obtain ⟨A0, c0, hb, hg, hr0⟩ := h; exact Kd.N_ne ho hb ht
theorem IsS41.fresh {w0 W : World} {g : Nat} {f0 : List Int} {f1 : Int} (h : IsS41 w0 W g f0 f1) : ∀ k, W.heap.size ≤ k → k ≠ g := by
 obtain ⟨A0, c0, hb, hg, hr0⟩ := h; exact Kd.freshB hb
theorem IsS41.kept {w0 W : World} {g : Nat} {f0 : List Int} {f1 : Int} {W1 : World} {S : Nat → Prop} (h : IsS41 w0 W g f0 f1) (hk : Kept W W1 S) (hne : ¬ S g) : IsS41 w0 W1 g f0 f1 := by
 obtain ⟨A0, c0, hb, hg, hr0⟩ := h; exact ⟨A0, c0, blk_kept hb hk hne, hg, hr0⟩
theorem IsS41.below {w0 W : World} {g : Nat} {f0 : List Int} {f1 : Int} {W1 : World} (h : IsS41 w0 W g f0 f1) (hw : Below W.heap.size W W1) : IsS41 w0 W1 g f0 f1 := h.grown (grown_of_below hw none) (by simp)
theorem IsS41.alloc {w0 W : World} {g : Nat} {f0 : List Int} {f1 : Int} (h : IsS41 w0 W g f0 f1) (o : Obj) : IsS41 w0 (W.alloc o) g f0 f1 := h.below (below_alloc (Below.refl _ _) o)
theorem IsS41.drewN {w0 W : World} {g : Nat} {f0 : List Int} {f1 : Int} (h : IsS41 w0 W g f0 f1) (m : Nat) : IsS41 w0 (W.drewN m) g f0 f1 := h
theorem IsS41.drew {w0 W : World} {g : Nat} {f0 : List Int} {f1 : Int} (h : IsS41 w0 W g f0 f1) : IsS41 w0 W.drew g f0 f1 := h
theorem IsS41.at_ {w0 W : World} {g : Nat} {f0 : List Int} {f1 : Int} {w' : World} {m : Nat} (hq : W.drewN m = w') (h : IsS41 w0 W g f0 f1) : IsS41 w0 w' g f0 f1 := by subst hq; exact IsS41.drewN h m
theorem IsS41.apart {w0 W : World} {g : Nat} {f0 : List Int} {f1 : Int} {α : Type} {d : Kd α} {e : Nat} {base : Nat} {ok : Nat → Prop} {v : Value} {xs : List α} (h : IsS41 w0 W g f0 f1) (ho : d.R e W base ok v xs) (ht : ∀ q, q ∈ e :: d.E → q ≠ 41) : d.R e W base (fun k => ok k ∧ k ≠ g) v xs := by
 obtain ⟨A0, c0, hb, hg, hr0⟩ := h; exact Kd.R_types ho hb ht
theorem IsS41.own_ne {w0 W : World} {g : Nat} {f0 : List Int} {f1 : Int} {α : Type} {d : Kd α} {e : Nat} {base : Nat} {ok : Nat → Prop} {v : Value} {xs : List α} (h : IsS41 w0 W g f0 f1) (ho : d.R e W base ok v xs) (ht : e ≠ 41) : some g ≠ v.ownBlock := by
 obtain ⟨A0, c0, hb, hg, hr0⟩ := h; exact Kd.R_ne ho hb ht
theorem IsS41.apartQ {w0 W : World} {g : Nat} {f0 : List Int} {f1 : Int} {α : Type} {d : Kd α} {e : Nat} {base : Nat} {ok : Nat → Prop} {v : Value} {xs : List α} (h : IsS41 w0 W g f0 f1) (ho : d.Q e W base ok v xs) (ht : ∀ q, q ∈ e :: d.E → q ≠ 41) : d.Q e W base (fun k => ok k ∧ k ≠ g) v xs := by
 obtain ⟨A0, c0, hb, hg, hr0⟩ := h; exact Kd.Q_types ho hb ht
theorem IsS41.own_neQ {w0 W : World} {g : Nat} {f0 : List Int} {f1 : Int} {α : Type} {d : Kd α} {e : Nat} {base : Nat} {ok : Nat → Prop} {v : Value} {xs : List α} (h : IsS41 w0 W g f0 f1) (ho : d.Q e W base ok v xs) (ht : e ≠ 41) : some g ≠ v.ownBlock := by
 obtain ⟨A0, c0, hb, hg, hr0⟩ := h; exact Kd.Q_ne ho hb ht
theorem IsS41.apartS {w0 W : World} {g : Nat} {f0 : List Int} {f1 : Int} {α : Type} {d : Kd α} {e : Nat} {base : Nat} {ok : Nat → Prop} {v : Value} {xs : List α} (h : IsS41 w0 W g f0 f1) (ho : d.S e W base ok v xs) (ht : ∀ q, q ∈ e :: d.E → q ≠ 41) : d.S e W base (fun k => ok k ∧ k ≠ g) v xs := by
 obtain ⟨A0, c0, hb, hg, hr0⟩ := h; exact Kd.S_types ho hb ht
theorem IsS41.own_neS {w0 W : World} {g : Nat} {f0 : List Int} {f1 : Int} {α : Type} {d : Kd α} {e : Nat} {base : Nat} {ok : Nat → Prop} {v : Value} {xs : List α} (h : IsS41 w0 W g f0 f1) (ho : d.S e W base ok v xs) (ht : e ≠ 41) : some g ≠ v.ownBlock := by
 obtain ⟨A0, c0, hb, hg, hr0⟩ := h; exact Kd.S_ne ho hb ht
theorem IsS41.lt {w0 W : World} {g : Nat} {f0 : List Int} {f1 : Int} (h : IsS41 w0 W g f0 f1) : g < W.heap.size := by
 obtain ⟨A0, c0, hb, hg, hr0⟩ := h; exact blk_lt hb
theorem IsS41.ge {w0 W : World} {g : Nat} {f0 : List Int} {f1 : Int} (h : IsS41 w0 W g f0 f1) : w0.heap.size ≤ g := by
 obtain ⟨A0, c0, hb, hg, hr0⟩ := h; exact hg
theorem IsS41.ne_blk {w0 W : World} {g : Nat} {f0 : List Int} {f1 : Int} {a : Nat} {cs : Array Value} {t : TypeId} {fr : Nat × Nat} (h : IsS41 w0 W g f0 f1) (hb2 : W.heap[a]? = some (.cells cs t fr)) (ht : t ≠ 41) : g ≠ a := by
 obtain ⟨A0, c0, hb, hg, hr0⟩ := h; rintro rfl; rw [hb] at hb2; injection hb2 with hb2; injection hb2 with _ ht2; exact ht ht2.symm
theorem IsS41.far {w0 W : World} {g : Nat} {f0 : List Int} {f1 : Int} {p : Addr} (h : IsS41 w0 W g f0 f1) (hne : g ≠ p.block) (u : Value) : IsS41 w0 (W.setCell p u) g f0 f1 := by
 obtain ⟨A0, c0, hb, hg, hr0⟩ := h; exact ⟨A0, c0, blk_far hb hne u, hg, hr0⟩
theorem cellS41_0 {W : World} {g : Nat} {A0 : Option Addr} {c0 : Nat} {f0 : List Int} {f1 : Int} (h : W.heap[g]? = some (.cells #[.slice A0 f0.length c0, .int .i64 f1] 41 (0, 0))) : W.cell? ⟨g, 0, none⟩ = some (.slice A0 f0.length c0) := (blk_cell h 0).trans rfl
theorem cellS41_1 {W : World} {g : Nat} {A0 : Option Addr} {c0 : Nat} {f0 : List Int} {f1 : Int} (h : W.heap[g]? = some (.cells #[.slice A0 f0.length c0, .int .i64 f1] 41 (0, 0))) : W.cell? ⟨g, 1, none⟩ = some (.int .i64 f1) := (blk_cell h 1).trans rfl
theorem IsS41.set_1 {w0 W : World} {g : Nat} {f0 : List Int} {f1 : Int} (h : IsS41 w0 W g f0 f1) (x : Int) : IsS41 w0 (W.setCell ⟨g, 1, none⟩ (.int .i64 x)) g f0 x := by
 obtain ⟨A0, c0, hb, hg, hr0⟩ := h; exact ⟨A0, c0, by simpa using blk_set hb 1 (.int .i64 x), hg, hr0⟩
theorem IsS41.new (w0 W : World) (A0 : Option Addr) (c0 : Nat) (f0 : List Int) (f1 : Int) (hB : Below w0.heap.size w0 W) (hr0 : Kd.C (Kd.int .i64) w0 A0 f0.length f0) : IsS41 w0 (W.alloc (.cells #[.slice A0 f0.length c0, .int .i64 f1] 41)) W.heap.size f0 f1 := ⟨A0, c0, by simpa using heap_alloc_new W _, hB.size, hr0⟩

/-! ### mk_New: function 5 -/
def mk_New.f (l0 : List Int) : Option (List Int × Int) := if (l0.length : Int) > 600 then (if 600 ≤ (l0.length : Int) then (some (l0.take 600, 0)) else (none)) else (some (l0, 0))
set_option maxHeartbeats 8000000 in
set_option maxRecDepth 100000 in
theorem mk_New.calls (A0 : Option Addr) (c0 : Nat) (l0 : List Int) (r1 : List Int) (r2 : Int) (w0 w : World) (hB : Below w0.heap.size w0 w) (hr0 : Kd.C (Kd.int .i64) w0 A0 l0.length l0) (hc0 : l0.length ≤ c0) (h : mk_New.f l0 = some (r1, r2)) :
  Calls Tryz.prog 5 #[.slice A0 l0.length c0] w fun e w' => ∃ g_ : Nat, e = .returned (.pointer (some ⟨g_, 0, none⟩)) ∧ IsS41 w0 w' g_ r1 r2 ∧ Below w0.heap.size w0 w' ∧ Below w.heap.size w w' := by
 have hu41 := Tryz.underlying41; have HR0 := Aside0.mk hr0; have HC0 := Aside0.mk hc0; clear hr0 hc0; have HBW := Aside0.mk (Below.refl w.heap.size w); have HW0 := Aside0.mk hB.size; have HB := Aside0.mk hB; clear hB; have H : (if (l0.length : Int) > 600 then (if 600 ≤ (l0.length : Int) then (some (l0.take 600, 0)) else (none)) else (some (l0, 0))) = some (r1, r2) := h; clear h
 by_cases c2 : (l0.length : Int) > 600
 ·rw [if_pos c2] at H; have c2b0 : decide (600 < (l0.length : Int)) = true := decide_eq_true c2; have c2b1 : decide (600 < l0.length) = true := decide_eq_true (by omega); clear c2
  by_cases c3 : 600 ≤ (l0.length : Int)
  ·rw [if_pos c3] at H; have c3b0 := eq_true c3; have c3b1 : decide (600 ≤ (l0.length : Int)) = true := decide_eq_true c3; clear c3; simp only [Option.some.injEq, Prod.mk.injEq] at H; obtain ⟨rfl, rfl⟩ := H; obtain ⟨i04, hi04, _, hsz4, _⟩ := info_parts info3; obtain ⟨hcut4, hA4, hC4⟩ := print_take_of (P := Tryz.prog) (Value.int .i64) 0 22 3 .i64 Tryz.underlying22 hi04 hsz4 A0 c0 l0 600 (by omega) (of_decide_eq_true (by first | (with_reducible assumption) | assumption)) HC0.out; have HR101 := Aside0.mk (Kd.C_of_reads (h1 := fun _ => rfl) (hA4 _ (Kd.reads_of_C HR0.out))); have HC101 := Aside0.mk hC4; clear hA4 hC4 hi04 hsz4; (go_enter Tryz.func5, Tryz.ntmps5); (go_wp2_with (first | ((with_reducible refine gate_dst (N := 10) rfl ?_); refine bx (N := 10) (cs := #[.slice A0 (l0.take 600).length c0, .int .i64 0]) (t := 41) ?_; intro gb102 hg w5 hbox hb; have BK102 := Aside0.mk (hbox); have GW102 := gs HBW hg; have GE102 := Aside0.mk ((Nat.le_trans HW0.out (by rw [hg]; exact (below_size (bw HBW)) : w.heap.size ≤ gb102) : w0.heap.size ≤ gb102)); replace HBW := Aside0.mk (below_step HBW.out hb); replace HB := wb HB hb; clear hb hbox hg))); (go_ret); exact ⟨_, rfl, (show IsS41 w0 _ gb102 (l0.take 600) 0 from ⟨_, _, by refine pe ?_; exact BK102.out, GE102.out, HR101.out⟩), bw HB, bw HBW⟩
  ·rw [if_neg c3] at H; exact absurd H (by simp)
 ·rw [if_neg c2] at H; have c2b0 : decide (600 < (l0.length : Int)) = false := decide_eq_false c2; have c2b1 : decide (600 < l0.length) = false := decide_eq_false (by omega); clear c2; simp only [Option.some.injEq, Prod.mk.injEq] at H; obtain ⟨rfl, rfl⟩ := H; (go_enter Tryz.func5, Tryz.ntmps5); (go_wp2_with (first | ((with_reducible refine gate_dst (N := 10) rfl ?_); refine bx (N := 10) (cs := #[.slice A0 l0.length c0, .int .i64 0]) (t := 41) ?_; intro gb103 hg w6 hbox hb; have BK103 := Aside0.mk (hbox); have GW103 := gs HBW hg; have GE103 := Aside0.mk ((Nat.le_trans HW0.out (by rw [hg]; exact (below_size (bw HBW)) : w.heap.size ≤ gb103) : w0.heap.size ≤ gb103)); replace HBW := Aside0.mk (below_step HBW.out hb); replace HB := wb HB hb; clear hb hbox hg))); (go_ret); exact ⟨_, rfl, (show IsS41 w0 _ gb103 l0 0 from ⟨_, _, by refine pe ?_; exact BK103.out, GE103.out, HR0.out⟩), bw HB, bw HBW⟩

end Go.Proofs.YtbapkiclgkddcaaGreatDoor.G

-- Printed by gp.py (a program of this session's own, over the kit's printer) out of the translation; Lean checks it.
namespace Go.Proofs.YtbapkiclgkddcaaGreatDoor.G
open Go.Proofs.YtbapkiclgkddcaaGreatDoor.Given Go.Proofs.YtbapkiclgkddcaaGreatDoor.Short
open Go.RowKit Go.Proofs.YtbapkiclgkddcaaGreatDoorW.PrintWords Go.Proofs.YtbapkiclgkddcaaGreatDoorW.PrintLast Go.Proofs.YtbapkiclgkddcaaGreatDoorW.PrintMore
attribute [local go_sem] max2_int min2_int max_two min_two max_three min_three max_four min_four   -- for this text's walks alone
set_option linter.unusedVariables false
set_option linter.unusedSimpArgs false

/-! ### mk_Cut: function 13 -/
def mk_Cut.f (a0 : Int) (a1 : Int) : Option (Int) := if a1 < 1 then (some 0) else (if a1 = 0 then (none) else (if (Int.tmod a0 a1) < 0 then (some (wrap64 ((Int.tmod a0 a1) + a1))) else (some (Int.tmod a0 a1))))
set_option maxHeartbeats 8000000 in
set_option maxRecDepth 100000 in
theorem mk_Cut.calls (a0 : Int) (a1 : Int) (r : Int) (w : World) (h : mk_Cut.f a0 a1 = some r) :
  Calls Tryz.prog 13 #[.int .i64 a0, .int .i64 a1] w fun e w' => e = .returned (.int .i64 r) ∧ Drawn0 w w' := by
 have H : (if a1 < 1 then (some 0) else (if a1 = 0 then (none) else (if (Int.tmod a0 a1) < 0 then (some (wrap64 ((Int.tmod a0 a1) + a1))) else (some (Int.tmod a0 a1))))) = some r := h; clear h
 by_cases c3 : a1 < 1
 ·rw [if_pos c3] at H; have c3b0 : decide (a1 < 1) = true := decide_eq_true c3; clear c3; obtain rfl := Option.some.inj H; (go_enter Tryz.func13, Tryz.ntmps13); (go_wp2); (go_ret); exact ⟨by first | rfl | (simp; done) | (simp [*]; done), by repeat (first | exact Drawn0.refl _ | apply Drawn0.step)⟩
 ·rw [if_neg c3] at H; have c3b0 : decide (a1 < 1) = false := decide_eq_false c3; clear c3
  by_cases c4 : a1 = 0
  ·rw [if_pos c4] at H; exact absurd H (by simp)
  ·rw [if_neg c4] at H; have c4b0 : (a1 == 0) = false := beq_eq_false_iff_ne.mpr c4; have c4b1 : (a1 != 0) = true := bne_iff_ne.mpr c4
   by_cases c5 : (Int.tmod a0 a1) < 0
   ·rw [if_pos c5] at H; have c5b0 : decide ((Int.tmod a0 a1) < 0) = true := decide_eq_true c5; clear c5; obtain rfl := Option.some.inj H; (go_enter Tryz.func13, Tryz.ntmps13); (go_wp2); (go_ret); exact ⟨by first | rfl | (simp; done) | (simp [*]; done), by repeat (first | exact Drawn0.refl _ | apply Drawn0.step)⟩
   ·rw [if_neg c5] at H; have c5b0 : decide ((Int.tmod a0 a1) < 0) = false := decide_eq_false c5; clear c5; obtain rfl := Option.some.inj H; (go_enter Tryz.func13, Tryz.ntmps13); (go_wp2); (go_ret); exact ⟨by first | rfl | (simp; done) | (simp [*]; done), by repeat (first | exact Drawn0.refl _ | apply Drawn0.step)⟩

end Go.Proofs.YtbapkiclgkddcaaGreatDoor.G

-- Printed by gp.py (a program of this session's own, over the kit's printer) out of the translation; Lean checks it.
namespace Go.Proofs.YtbapkiclgkddcaaGreatDoor.G
open Go.Proofs.YtbapkiclgkddcaaGreatDoor.Given Go.Proofs.YtbapkiclgkddcaaGreatDoor.Short
open Go.RowKit Go.Proofs.YtbapkiclgkddcaaGreatDoorW.PrintWords Go.Proofs.YtbapkiclgkddcaaGreatDoorW.PrintLast Go.Proofs.YtbapkiclgkddcaaGreatDoorW.PrintMore
attribute [local go_sem] max2_int min2_int max_two min_two max_three min_three max_four min_four   -- for this text's walks alone
set_option linter.unusedVariables false
set_option linter.unusedSimpArgs false

/-! ### tp_Raw: function 66 -/
def tp_Raw.f (s0_0 : List Int) (s0_1 : Int) : Option (Int × Int) := if s0_1 ≥ (s0_0.length : Int) then (some (0, s0_1)) else (if 0 ≤ (wrap64 ((wrap64 (s0_1 + 1)) - 1)) then (if (wrap64 ((wrap64 (s0_1 + 1)) - 1)) < (s0_0.length : Int) then (some (rd s0_0 (wrap64 ((wrap64 (s0_1 + 1)) - 1)), wrap64 (s0_1 + 1))) else (none)) else (none))
set_option maxHeartbeats 8000000 in
set_option maxRecDepth 100000 in
theorem tp_Raw.calls (g : Nat) (s0_0 : List Int) (s0_1 : Int) (r1 : Int) (r2 : Int) (w0 w : World) (hI : IsS41 w0 w g s0_0 s0_1) (hB : Below w0.heap.size w0 w) (h : tp_Raw.f s0_0 s0_1 = some (r1, r2)) :
  Calls Tryz.prog 66 #[.pointer (some ⟨g, 0, none⟩)] w fun e w' => e = .returned (.int .i64 r1) ∧ IsS41 w0 w' g s0_0 r2 ∧ Below w0.heap.size w0 w' ∧ KeepBut w w' g none := by
 have HI0 := Aside0.mk hI; have HK := Aside0.mk (KeepBut.refl w g none); have HL := Aside0.mk hB.size; clear hI; have HW0 := Aside0.mk hB.size; have HB := Aside0.mk hB; clear hB; have H : (if s0_1 ≥ (s0_0.length : Int) then (some (0, s0_1)) else (if 0 ≤ (wrap64 ((wrap64 (s0_1 + 1)) - 1)) then (if (wrap64 ((wrap64 (s0_1 + 1)) - 1)) < (s0_0.length : Int) then (some (rd s0_0 (wrap64 ((wrap64 (s0_1 + 1)) - 1)), wrap64 (s0_1 + 1))) else (none)) else (none))) = some (r1, r2) := h; clear h
 by_cases c2 : s0_1 ≥ (s0_0.length : Int)
 ·rw [if_pos c2] at H; have c2b0 : decide ((s0_0.length : Int) ≤ s0_1) = true := decide_eq_true c2; clear c2; simp only [Option.some.injEq, Prod.mk.injEq] at H; obtain ⟨rfl, rfl⟩ := H; obtain ⟨ASz3_0, cSz3_0, HGz3, hgz3, HSz3_0⟩ := HI0.out; have hcz3_0 := cellS41_0 HGz3; have hcz3_1 := cellS41_1 HGz3; have hfz3_1 := blk_frozen HGz3 1; clear HGz3 hgz3; (go_enter Tryz.func66, Tryz.ntmps66); (go_wp2); (repeat (go_quiet (fail); try go_wp2)); (go_ret); exact ⟨by first | rfl | (simp [errW_none, errW_some] <;> rfl) | (simp [*, errW_none, errW_some] <;> rfl), by repeat (first | (with_reducible first | exact HI0.out | apply IsS41.alloc | apply IsS41.drewN | apply IsS41.drew | apply IsS41.set_1) | exact HI0.out), by repeat (first | (with_reducible first | exact HB.out | apply below_alloc | apply pw_below_drewN | apply below_drew1 | refine below_set ?_ (IsS41.ge HI0.out)) | exact HB.out), by repeat (first | (with_reducible first | exact HK.out | apply KeepBut.set_ | apply keep_drewN | apply keep_drew | apply keep_alloc) | exact HK.out)⟩
 ·rw [if_neg c2] at H; have c2b0 : decide ((s0_0.length : Int) ≤ s0_1) = false := decide_eq_false c2; clear c2; obtain ⟨ji4, hji4⟩ : ∃ j_ : Int, (wrap64 ((wrap64 (s0_1 + 1)) - 1)) = j_ := ⟨_, rfl⟩; (replace H : (if 0 ≤ (ji4) then (if (ji4) < (s0_0.length : Int) then (some (rd s0_0 (ji4), wrap64 (s0_1 + 1))) else (none)) else (none)) = some (r1, r2) := by first | (rw [hji4] at H; exact H) | (simp only [hji4] at H ⊢; exact H)); have hji4w : (IntKind.i64.wrap ((wrap64 (s0_1 + 1)) - 1)) = ji4 := (i64_w _).trans hji4
  by_cases c5 : 0 ≤ (ji4)
  ·rw [if_pos c5] at H; have c5b0 : decide (0 ≤ (ji4)) = true := decide_eq_true c5; clear c5
   by_cases c6 : (ji4) < (s0_0.length : Int)
   ·rw [if_pos c6] at H; have c6b0 : decide ((ji4) < (s0_0.length : Int)) = true := decide_eq_true c6; clear c6; simp only [Option.some.injEq, Prod.mk.injEq] at H; obtain ⟨rfl, rfl⟩ := H; obtain ⟨ASz7_0, cSz7_0, HGz7, hgz7, HSz7_0⟩ := HI0.out; have hcz7_0 := cellS41_0 HGz7; have hcz7_1 := cellS41_1 HGz7; have hfz7_1 := blk_frozen HGz7 1; clear HGz7 hgz7; have p104 : 0 ≤ ((ji4) : Int) := of_decide_eq_true (by first | (with_reducible assumption) | assumption); have q104 : (ji4) < (s0_0.length : Int) := of_decide_eq_true (by first | (with_reducible assumption) | assumption); obtain ⟨ad104, e104, hx104_0⟩ := Kd.at_int HSz7_0 (ji4) p104 q104
    cases e104
    have hn104_0 : ad104.block ≠ g := Nat.ne_of_lt (Nat.lt_of_lt_of_le (by have := World.block_lt_of_cell? _ _ hx104_0; first | rwa [add_block] at this | exact this) (IsS41.ge HI0.out)); replace hx104_0 := pw_cell_below HB.out hx104_0; replace hx104_0 := (cell_far (p := ⟨g, 1, none⟩) (by first | (rw [add_block]; exact hn104_0) | (show (Addr.add _ _).block ≠ _; rw [add_block]; exact hn104_0) | exact hn104_0) (.int .i64 (wrap64 (s0_1 + 1)))).trans hx104_0; (try have hy104_0 := fun (n_ : Nat) => (show (((w.drewN n_).setCell ⟨g, 1, none⟩ (.int .i64 (wrap64 (s0_1 + 1))))).cell? _ = some _ from hx104_0)); clear hn104_0; replace p104 := eq_true p104; replace q104 := eq_true q104; (go_enter Tryz.func66, Tryz.ntmps66); (go_wp2); (repeat (go_quiet (fail); try go_wp2)); (go_ret); exact ⟨by first | rfl | (simp [errW_none, errW_some] <;> rfl) | (simp only [← hji4]; first | rfl | (simp [errW_none, errW_some] <;> rfl)) | (simp [*, errW_none, errW_some] <;> rfl), by repeat (first | (with_reducible first | exact HI0.out | apply IsS41.alloc | apply IsS41.drewN | apply IsS41.drew | apply IsS41.set_1) | exact HI0.out), by repeat (first | (with_reducible first | exact HB.out | apply below_alloc | apply pw_below_drewN | apply below_drew1 | refine below_set ?_ (IsS41.ge HI0.out)) | exact HB.out), by repeat (first | (with_reducible first | exact HK.out | apply KeepBut.set_ | apply keep_drewN | apply keep_drew | apply keep_alloc) | exact HK.out)⟩
   ·rw [if_neg c6] at H; exact absurd H (by simp)
  ·rw [if_neg c5] at H; exact absurd H (by simp)

end Go.Proofs.YtbapkiclgkddcaaGreatDoor.G

-- Printed by gp.py (a program of this session's own, over the kit's printer) out of the translation; Lean checks it.
namespace Go.Proofs.YtbapkiclgkddcaaGreatDoor.G
open Go.Proofs.YtbapkiclgkddcaaGreatDoor.Given Go.Proofs.YtbapkiclgkddcaaGreatDoor.Short
open Go.RowKit Go.Proofs.YtbapkiclgkddcaaGreatDoorW.PrintWords Go.Proofs.YtbapkiclgkddcaaGreatDoorW.PrintLast Go.Proofs.YtbapkiclgkddcaaGreatDoorW.PrintMore
attribute [local go_sem] max2_int min2_int max_two min_two max_three min_three max_four min_four   -- for this text's walks alone
set_option linter.unusedVariables false
set_option linter.unusedSimpArgs false

/-! ### tp_Next: function 42 -/
def tp_Next.f (s0_0 : List Int) (s0_1 : Int) (a1 : Int) : Option (Int × Int) := (tp_Raw.f s0_0 s0_1).bind fun bt105 => ((mk_Cut.f bt105.1 a1).bind fun t107 => (some (t107, bt105.2)))
set_option maxHeartbeats 8000000 in
set_option maxRecDepth 100000 in
theorem tp_Next.calls (g : Nat) (s0_0 : List Int) (s0_1 : Int) (a1 : Int) (r1 : Int) (r2 : Int) (w0 w : World) (hI : IsS41 w0 w g s0_0 s0_1) (hB : Below w0.heap.size w0 w) (h : tp_Next.f s0_0 s0_1 a1 = some (r1, r2)) :
  Calls Tryz.prog 42 #[.pointer (some ⟨g, 0, none⟩), .int .i64 a1] w fun e w' => e = .returned (.int .i64 r1) ∧ IsS41 w0 w' g s0_0 r2 ∧ Below w0.heap.size w0 w' ∧ KeepBut w w' g none := by
 have HI0 := Aside0.mk hI; have HK := Aside0.mk (KeepBut.refl w g none); have HL := Aside0.mk hB.size; clear hI; have HW0 := Aside0.mk hB.size; have HB := Aside0.mk hB; clear hB; have H : ((tp_Raw.f s0_0 s0_1).bind fun bt105 => ((mk_Cut.f bt105.1 a1).bind fun t107 => (some (t107, bt105.2)))) = some (r1, r2) := h; clear h; replace H := Option.bind_eq_some_iff.mp H; obtain ⟨⟨t105, t106⟩, A30, H⟩ := H; (try dsimp only at H); have A3 := Aside0.mk A30; clear A30; replace H := Option.bind_eq_some_iff.mp H; obtain ⟨t107, A40, H⟩ := H; (try dsimp only at H); have A4 := Aside0.mk A40; clear A40; simp only [Option.some.injEq, Prod.mk.injEq] at H; obtain ⟨rfl, rfl⟩ := H; (go_enter Tryz.func42, Tryz.ntmps42); (go_wp2_with (first | ((with_reducible refine gate_callee (f := 66) rfl ?_); refine gl (some 6) Tryz.func66 #[.pointer (some ⟨g, 0, none⟩)] ?_; (with_reducible refine (tp_Raw.calls g s0_0 s0_1 t105 t106 w0 _ ?side1 ?side2 A3.out).mono ?_); (case side1 => repeat (first | (with_reducible first | exact HI0.out | apply IsS41.alloc | apply IsS41.drewN | apply IsS41.drew | apply IsS41.set_1) | exact HI0.out)); (case side2 => repeat (first | (with_reducible first | exact HB.out | apply below_alloc | apply pw_below_drewN | apply below_drew1 | refine below_set ?_ (IsS41.ge HI0.out)) | exact HB.out)); rintro e w5 ⟨rfl, hi, hb, hk⟩; refine ⟨_, rfl, ?_⟩; replace HK := Aside0.mk (KeepBut.trans (by repeat (first | (with_reducible first | exact HK.out | apply KeepBut.set_ | apply keep_drewN | apply keep_drew | apply keep_alloc) | exact HK.out)) hk (.inl rfl)); replace HB := Aside0.mk (hb); replace HI0 := Aside0.mk (hi); (try clear hb); (try clear hb2); (try clear hk); (try clear hi)) | ((with_reducible refine gate_callee (f := 13) rfl ?_); refine gl (some 8) Tryz.func13 #[.int .i64 t105, .int .i64 a1] ?_; (with_reducible refine (mk_Cut.calls t105 a1 t107 _ A4.out).mono ?_); rintro e w' ⟨rfl, ⟨nd, rfl⟩⟩; refine ⟨_, rfl, ?_⟩))); (go_ret); exact ⟨by first | rfl | (simp [errW_none, errW_some] <;> rfl) | (simp [*, errW_none, errW_some] <;> rfl), by repeat (first | (with_reducible first | exact HI0.out | apply IsS41.alloc | apply IsS41.drewN | apply IsS41.drew | apply IsS41.set_1) | exact HI0.out), by repeat (first | (with_reducible first | exact HB.out | apply below_alloc | apply pw_below_drewN | apply below_drew1 | refine below_set ?_ (IsS41.ge HI0.out)) | exact HB.out), by repeat (first | (with_reducible first | exact HK.out | apply KeepBut.set_ | apply keep_drewN | apply keep_drew | apply keep_alloc) | exact HK.out)⟩

end Go.Proofs.YtbapkiclgkddcaaGreatDoor.G

-- Printed by gp.py (a program of this session's own, over the kit's printer) out of the translation; Lean checks it.
namespace Go.Proofs.YtbapkiclgkddcaaGreatDoor.G
open Go.Proofs.YtbapkiclgkddcaaGreatDoor.Given Go.Proofs.YtbapkiclgkddcaaGreatDoor.Short
open Go.RowKit Go.Proofs.YtbapkiclgkddcaaGreatDoorW.PrintWords Go.Proofs.YtbapkiclgkddcaaGreatDoorW.PrintLast Go.Proofs.YtbapkiclgkddcaaGreatDoorW.PrintMore
attribute [local go_sem] max2_int min2_int max_two min_two max_three min_three max_four min_four   -- for this text's walks alone
set_option linter.unusedVariables false
set_option linter.unusedSimpArgs false

/-! ### tp_One: function 18 -/
def tp_One.f (s0_0 : List Int) (s0_1 : Int) (a1 : Int) : Option (Bool × Int) := (tp_Next.f s0_0 s0_1 a1).bind fun bt108 => (some ((bt108.1 == (wrap64 (a1 - 1))), bt108.2))
set_option maxHeartbeats 8000000 in
set_option maxRecDepth 100000 in
theorem tp_One.calls (g : Nat) (s0_0 : List Int) (s0_1 : Int) (a1 : Int) (r1 : Bool) (r2 : Int) (w0 w : World) (hI : IsS41 w0 w g s0_0 s0_1) (hB : Below w0.heap.size w0 w) (h : tp_One.f s0_0 s0_1 a1 = some (r1, r2)) :
  Calls Tryz.prog 18 #[.pointer (some ⟨g, 0, none⟩), .int .i64 a1] w fun e w' => e = .returned (.bool r1) ∧ IsS41 w0 w' g s0_0 r2 ∧ Below w0.heap.size w0 w' ∧ KeepBut w w' g none := by
 have HI0 := Aside0.mk hI; have HK := Aside0.mk (KeepBut.refl w g none); have HL := Aside0.mk hB.size; clear hI; have HW0 := Aside0.mk hB.size; have HB := Aside0.mk hB; clear hB; have H : ((tp_Next.f s0_0 s0_1 a1).bind fun bt108 => (some ((bt108.1 == (wrap64 (a1 - 1))), bt108.2))) = some (r1, r2) := h; clear h; replace H := Option.bind_eq_some_iff.mp H; obtain ⟨⟨t108, t109⟩, A30, H⟩ := H; (try dsimp only at H); have A3 := Aside0.mk A30; clear A30; simp only [Option.some.injEq, Prod.mk.injEq] at H; obtain ⟨rfl, rfl⟩ := H; (go_enter Tryz.func18, Tryz.ntmps18); (go_wp2_with (first | ((with_reducible refine gate_callee (f := 42) rfl ?_); refine gl (some 7) Tryz.func42 #[.pointer (some ⟨g, 0, none⟩), .int .i64 a1] ?_; (with_reducible refine (tp_Next.calls g s0_0 s0_1 a1 t108 t109 w0 _ ?side1 ?side2 A3.out).mono ?_); (case side1 => repeat (first | (with_reducible first | exact HI0.out | apply IsS41.alloc | apply IsS41.drewN | apply IsS41.drew | apply IsS41.set_1) | exact HI0.out)); (case side2 => repeat (first | (with_reducible first | exact HB.out | apply below_alloc | apply pw_below_drewN | apply below_drew1 | refine below_set ?_ (IsS41.ge HI0.out)) | exact HB.out)); rintro e w4 ⟨rfl, hi, hb, hk⟩; refine ⟨_, rfl, ?_⟩; replace HK := Aside0.mk (KeepBut.trans (by repeat (first | (with_reducible first | exact HK.out | apply KeepBut.set_ | apply keep_drewN | apply keep_drew | apply keep_alloc) | exact HK.out)) hk (.inl rfl)); replace HB := Aside0.mk (hb); replace HI0 := Aside0.mk (hi); (try clear hb); (try clear hb2); (try clear hk); (try clear hi)))); (go_ret); exact ⟨by first | rfl | (simp [errW_none, errW_some] <;> rfl) | (simp [*, errW_none, errW_some] <;> rfl), by repeat (first | (with_reducible first | exact HI0.out | apply IsS41.alloc | apply IsS41.drewN | apply IsS41.drew | apply IsS41.set_1) | exact HI0.out), by repeat (first | (with_reducible first | exact HB.out | apply below_alloc | apply pw_below_drewN | apply below_drew1 | refine below_set ?_ (IsS41.ge HI0.out)) | exact HB.out), by repeat (first | (with_reducible first | exact HK.out | apply KeepBut.set_ | apply keep_drewN | apply keep_drew | apply keep_alloc) | exact HK.out)⟩

end Go.Proofs.YtbapkiclgkddcaaGreatDoor.G

-- Printed by gp.py (a program of this session's own, over the kit's printer) out of the translation; Lean checks it.
namespace Go.Proofs.YtbapkiclgkddcaaGreatDoor.G
open Go.Proofs.YtbapkiclgkddcaaGreatDoor.Given Go.Proofs.YtbapkiclgkddcaaGreatDoor.Short
open Go.RowKit Go.Proofs.YtbapkiclgkddcaaGreatDoorW.PrintWords Go.Proofs.YtbapkiclgkddcaaGreatDoorW.PrintLast Go.Proofs.YtbapkiclgkddcaaGreatDoorW.PrintMore
attribute [local go_sem] max2_int min2_int max_two min_two max_three min_three max_four min_four   -- for this text's walks alone
set_option linter.unusedVariables false
set_option linter.unusedSimpArgs false

/-! ### tp_Range: function 20 -/
def tp_Range.f (s0_0 : List Int) (s0_1 : Int) (a1 : Int) (a2 : Int) : Option (Int × Int) := (tp_Next.f s0_0 s0_1 (wrap64 ((wrap64 (a2 - a1)) + 1))).bind fun bt110 => (some (wrap64 (a1 + bt110.1), bt110.2))
set_option maxHeartbeats 8000000 in
set_option maxRecDepth 100000 in
theorem tp_Range.calls (g : Nat) (s0_0 : List Int) (s0_1 : Int) (a1 : Int) (a2 : Int) (r1 : Int) (r2 : Int) (w0 w : World) (hI : IsS41 w0 w g s0_0 s0_1) (hB : Below w0.heap.size w0 w) (h : tp_Range.f s0_0 s0_1 a1 a2 = some (r1, r2)) :
  Calls Tryz.prog 20 #[.pointer (some ⟨g, 0, none⟩), .int .i64 a1, .int .i64 a2] w fun e w' => e = .returned (.int .i64 r1) ∧ IsS41 w0 w' g s0_0 r2 ∧ Below w0.heap.size w0 w' ∧ KeepBut w w' g none := by
 have HI0 := Aside0.mk hI; have HK := Aside0.mk (KeepBut.refl w g none); have HL := Aside0.mk hB.size; clear hI; have HW0 := Aside0.mk hB.size; have HB := Aside0.mk hB; clear hB; have H : ((tp_Next.f s0_0 s0_1 (wrap64 ((wrap64 (a2 - a1)) + 1))).bind fun bt110 => (some (wrap64 (a1 + bt110.1), bt110.2))) = some (r1, r2) := h; clear h; replace H := Option.bind_eq_some_iff.mp H; obtain ⟨⟨t110, t111⟩, A40, H⟩ := H; (try dsimp only at H); have A4 := Aside0.mk A40; clear A40; simp only [Option.some.injEq, Prod.mk.injEq] at H; obtain ⟨rfl, rfl⟩ := H; (go_enter Tryz.func20, Tryz.ntmps20); (go_wp2_with (first | ((with_reducible refine gate_callee (f := 42) rfl ?_); refine gl (some 13) Tryz.func42 #[.pointer (some ⟨g, 0, none⟩), .int .i64 (wrap64 ((wrap64 (a2 - a1)) + 1))] ?_; (with_reducible refine (tp_Next.calls g s0_0 s0_1 (wrap64 ((wrap64 (a2 - a1)) + 1)) t110 t111 w0 _ ?side1 ?side2 A4.out).mono ?_); (case side1 => repeat (first | (with_reducible first | exact HI0.out | apply IsS41.alloc | apply IsS41.drewN | apply IsS41.drew | apply IsS41.set_1) | exact HI0.out)); (case side2 => repeat (first | (with_reducible first | exact HB.out | apply below_alloc | apply pw_below_drewN | apply below_drew1 | refine below_set ?_ (IsS41.ge HI0.out)) | exact HB.out)); rintro e w5 ⟨rfl, hi, hb, hk⟩; refine ⟨_, rfl, ?_⟩; replace HK := Aside0.mk (KeepBut.trans (by repeat (first | (with_reducible first | exact HK.out | apply KeepBut.set_ | apply keep_drewN | apply keep_drew | apply keep_alloc) | exact HK.out)) hk (.inl rfl)); replace HB := Aside0.mk (hb); replace HI0 := Aside0.mk (hi); (try clear hb); (try clear hb2); (try clear hk); (try clear hi)))); (go_ret); exact ⟨by first | rfl | (simp [errW_none, errW_some] <;> rfl) | (simp [*, errW_none, errW_some] <;> rfl), by repeat (first | (with_reducible first | exact HI0.out | apply IsS41.alloc | apply IsS41.drewN | apply IsS41.drew | apply IsS41.set_1) | exact HI0.out), by repeat (first | (with_reducible first | exact HB.out | apply below_alloc | apply pw_below_drewN | apply below_drew1 | refine below_set ?_ (IsS41.ge HI0.out)) | exact HB.out), by repeat (first | (with_reducible first | exact HK.out | apply KeepBut.set_ | apply keep_drewN | apply keep_drew | apply keep_alloc) | exact HK.out)⟩

end Go.Proofs.YtbapkiclgkddcaaGreatDoor.G
