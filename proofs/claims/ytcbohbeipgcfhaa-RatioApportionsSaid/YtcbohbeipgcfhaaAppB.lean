/- ratio.Apportion: the ways out with an error (too many weights, a number out of range, no weight above 0). -/
import Derived.Test.YtcbohbeipgcfhaaApp
import Derived.Below
import Derived.Deep.Draws
import Derived.Deep.AppendLies
import Derived.Maps.AppendAt
import Derived.OwnWalk
import Derived.Laws.BytesArg
import Derived.Laws.MakeOwn
import Derived.Laws.OwnMore
import Derived.Deep.OwnRows
import Derived.Tactics
import Derived.Laws.Slices
import Derived.KernelRfl
import Derived.RowKit3
import Derived.WideLaws
import Derived.Deep.DeepCutAuto
import Derived.Deep.CutBlock
import Derived.Deep.RegionHeld3
import Derived.Laws.Rows
import Derived.ArgAppend
import Derived.OrdersHeld
import Derived.RowKit
import Derived.Outline
namespace Go.Proofs.Ytcbohbeipgcfhaa.Given
open Go.RowKit Go.Lib Go.Sort Go.Proofs.Ytcbohbeipgcfhaa.Short Go.Proofs.YtcbohbeipgcfhaaW.PrintWords Go.Proofs.YtcbohbeipgcfhaaW.PrintLast Go.Proofs.YtcbohbeipgcfhaaW.PrintMore
set_option linter.unusedVariables false
theorem rd_get (l : List Int) (k : Nat) (hk : k < l.length) : rd l k = l[k] := by simp [rd, List.getElem?_eq_getElem hk]
set_option maxHeartbeats 1000000 in
set_option maxRecDepth 100000 in
theorem ap_long (a0 : Int) (A1 : Option Addr) (c1 : Nat) (l1 : List Int) (w : World) (hr1 : Kd.C (Kd.int .i64) w A1 l1.length l1) (hc1 : l1.length ≤ c1) (hl : 100 < l1.length)  :
    Calls Try.prog 15 #[.int .i64 a0, .slice A1 l1.length c1] w fun e w' => ∃ v0_ : Value, e = .returned (.tuple #[v0_, .int .i64 3]) ∧ Kd.R (Kd.int .i64) 3 w' w.heap.size (fun _ => True) v0_ [] ∧ Below w.heap.size w w' := by
  have HB := Aside0.mk (Below.refl w.heap.size w)
  have HR := Aside0.mk hr1
  have HL := Aside0.mk hl
  have c100 : decide (100 < (l1.length : Int)) = true := decide_eq_true (by omega)
  have c100b : decide (100 < l1.length) = true := decide_eq_true (by omega)
  clear hr1 hl
  go_enter Try.func15, Try.ntmps15
  go_wp2_with (first | ((with_reducible refine gate_dst (N := 2) rfl ?_); refine box_event ?hg (N := 2) ?hd (cs := #[.int .i64 a0]) (t := 3) ?hr ?_; (case hd => rfl); (case hg => rfl); (case hr => first | (go_simp; done) | (go_simp; rfl)); intro gT hg w3 hbox hb; have BKT := Aside0.mk hbox; have GWT := gs HB hg; replace HB := wb HB hb; clear hb hbox hg) | ((with_reducible refine gate_dst (N := 3) rfl ?_); refine box_event ?hg (N := 3) ?hd (cs := #[.slice A1 l1.length c1]) (t := 22) ?hr ?_; (case hd => rfl); (case hg => rfl); (case hr => first | (go_simp; done) | (go_simp; rfl)); intro gW hg w4 hbox hb; have BKW := Aside0.mk hbox; have GWW := gs HB hg; have NTW := nl BKT hg; replace BKT := kb BKT hb; replace HB := wb HB hb; clear hb hbox hg; have hcT : w4.cell? ⟨gT, 0, none⟩ = some (.int .i64 a0) := (blk_cell BKT.out 0).trans rfl; have hcW : w4.cell? ⟨gW, 0, none⟩ = some (.slice A1 l1.length c1) := (blk_cell BKW.out 0).trans rfl) | ((with_reducible refine gate_dst (N := 6) rfl ?_); refine box_event ?hg (N := 6) ?hd (cs := #[.int .i64 0]) (t := 3) ?hr ?_; (case hd => rfl); (case hg => rfl); (case hr => first | (go_simp; done) | (go_simp; rfl)); intro gA hg w5 hbox hb; have BKA := Aside0.mk hbox; have GWA := gs HB hg; have NTA := nl BKT hg; have NWA := nl BKW hg; replace BKT := kb BKT hb; replace BKW := kb BKW hb; replace HB := wb HB hb; clear hb hbox hg hcT hcW; have hcT : w5.cell? ⟨gT, 0, none⟩ = some (.int .i64 a0) := (blk_cell BKT.out 0).trans rfl; have hcW : w5.cell? ⟨gW, 0, none⟩ = some (.slice A1 l1.length c1) := (blk_cell BKW.out 0).trans rfl; have hcA : w5.cell? ⟨gA, 0, none⟩ = some (.int .i64 0) := (blk_cell BKA.out 0).trans rfl; have hfA := blk_frozen BKA.out 0; obtain ⟨hnTA, hnAT⟩ := n2 NTA; obtain ⟨hnWA, hnAW⟩ := n2 NWA))
  go_ret2
  exact ⟨_, rfl, Kd.R_nil _ _ _ _ _, bw HB⟩
set_option maxHeartbeats 1000000 in
set_option maxRecDepth 100000 in
theorem ap_zero (a0 : Int) (A1 : Option Addr) (c1 : Nat) (l1 : List Int) (w : World) (hr1 : Kd.C (Kd.int .i64) w A1 l1.length l1) (hc1 : l1.length ≤ c1) (hl : l1.length ≤ 100) (hgood : ∀ x ∈ a0 :: l1, bad x = false) (hS : isum l1 = 0) :
    Calls Try.prog 15 #[.int .i64 a0, .slice A1 l1.length c1] w fun e w' => ∃ v0_ : Value, e = .returned (.tuple #[v0_, .int .i64 10]) ∧ Kd.R (Kd.int .i64) 3 w' w.heap.size (fun _ => True) v0_ [] ∧ Below w.heap.size w w' := by
  have HB := Aside0.mk (Below.refl w.heap.size w)
  have HR := Aside0.mk hr1
  have HL := Aside0.mk hl
  have HG := Aside0.mk hgood
  have c100 : decide (100 < (l1.length : Int)) = false := decide_eq_false (by omega)
  have c100b : decide (100 < l1.length) = false := decide_eq_false (by omega)
  clear hr1 hl hgood
  have HS := Aside0.mk hS
  clear hS
  go_enter Try.func15, Try.ntmps15
  go_wp2_with (first | ((with_reducible refine gate_dst (N := 2) rfl ?_); refine box_event ?hg (N := 2) ?hd (cs := #[.int .i64 a0]) (t := 3) ?hr ?_; (case hd => rfl); (case hg => rfl); (case hr => first | (go_simp; done) | (go_simp; rfl)); intro gT hg w3 hbox hb; have BKT := Aside0.mk hbox; have GWT := gs HB hg; replace HB := wb HB hb; clear hb hbox hg) | ((with_reducible refine gate_dst (N := 3) rfl ?_); refine box_event ?hg (N := 3) ?hd (cs := #[.slice A1 l1.length c1]) (t := 22) ?hr ?_; (case hd => rfl); (case hg => rfl); (case hr => first | (go_simp; done) | (go_simp; rfl)); intro gW hg w4 hbox hb; have BKW := Aside0.mk hbox; have GWW := gs HB hg; have NTW := nl BKT hg; replace BKT := kb BKT hb; replace HB := wb HB hb; clear hb hbox hg; have hcT : w4.cell? ⟨gT, 0, none⟩ = some (.int .i64 a0) := (blk_cell BKT.out 0).trans rfl; have hcW : w4.cell? ⟨gW, 0, none⟩ = some (.slice A1 l1.length c1) := (blk_cell BKW.out 0).trans rfl) | ((with_reducible refine gate_dst (N := 6) rfl ?_); refine box_event ?hg (N := 6) ?hd (cs := #[.int .i64 0]) (t := 3) ?hr ?_; (case hd => rfl); (case hg => rfl); (case hr => first | (go_simp; done) | (go_simp; rfl)); intro gA hg w5 hbox hb; have BKA := Aside0.mk hbox; have GWA := gs HB hg; have NTA := nl BKT hg; have NWA := nl BKW hg; replace BKT := kb BKT hb; replace BKW := kb BKW hb; replace HB := wb HB hb; clear hb hbox hg hcT hcW; have hcT : w5.cell? ⟨gT, 0, none⟩ = some (.int .i64 a0) := (blk_cell BKT.out 0).trans rfl; have hcW : w5.cell? ⟨gW, 0, none⟩ = some (.slice A1 l1.length c1) := (blk_cell BKW.out 0).trans rfl; have hcA : w5.cell? ⟨gA, 0, none⟩ = some (.int .i64 0) := (blk_cell BKA.out 0).trans rfl; have hfA := blk_frozen BKA.out 0; obtain ⟨hnTA, hnAT⟩ := n2 NTA; obtain ⟨hnWA, hnAW⟩ := n2 NWA) | ((with_reducible refine gate_dst (N := 20) rfl ?_); refine Kd.R_lit (Kd.int .i64) _ 3 ?hg (N := 20) ?hd (xs := ([a0] : List Int)) (inner := [.int .i64 a0]) (ok := fun _ => True) (okp := fun _ => True) ?hr ?hp (fun _ hk => hk) trivial (Below.refl _ _) (Nat.le_refl _) (by simp) ?_; (case hd => rfl); (case hg => rfl); (case hr => first | (go_simp; done) | (go_simp; rfl)); (case hp => exact (Reps.one (show Kd.M (Kd.int .i64) _ _ _ a0 [.int .i64 a0] from rfl) (Reps.none _ _))); intro v6 w6 ho hb hg_ hnew_; have HO := Aside0.mk (Kd.R_lower ho (below_size (bw HB))); have NOT := nb BKT hnew_; have NOW := nb BKW hnew_; have NOA := nb (g := gA) (o := .cells #[.int .i64 0] 3 (0, 0)) (W := w5.setCell ⟨gA, 0, none⟩ (.int .i64 0)) ⟨by refine blk_put (cs := #[.int .i64 0]) ?_ 0 _ rfl; exact BKA.out⟩ hnew_; replace BKA := Aside0.mk (blk_below (g := gA) (o := .cells #[.int .i64 0] 3 (0, 0)) (by refine pe ?_; refine blk_put (cs := #[.int .i64 0]) ?_ 0 _ rfl; exact BKA.out) hb); replace BKT := kb BKT hb; replace BKW := kb BKW hb; replace HB := wb HB hb; clear hb ho hg_ hnew_ hcT hcW hcA hfA; have hcW : w6.cell? ⟨gW, 0, none⟩ = some (.slice A1 l1.length c1) := (blk_cell BKW.out 0).trans rfl) | ((with_reducible refine gate_builtin (b := .append) (xs := #[.tmp 20, .tmp 21]) rfl ?_); at_builtin; refine Kd.R_append_rows (Kd.int .i64) w.heap.size rfl (.tmp 20) (.tmp 21) 22 3 (.int .i64 0) 8 rfl Try.underlying22 infoI rfl (by decide) (by omega) v6 ([a0] : List Int) l1 _ _ _ (fun _ => True) (fun _ => False) rfl rfl ?aO ?aR (fun _ _ h => h) (fun _ h => h.elim) (fun _ _ => trivial) (Below.refl _ _) ?aS ?aL ?_; (case aR => exact Kd.C_below HR.out (bw HB)); (case aO => exact HO.out); (case aS => exact below_size (bw HB)); (case aL => have := HL.out; simp; omega); have LTA := lt7 (W1 := w6) BKA; intro v7 w7 ho hb hg hat; replace BKT := kg BKT hg NOT; replace BKW := kg BKW hg NOW; replace BKA := kg BKA hg NOA; replace HB := Aside0.mk (pw_below_grown (bw HB) _ (below_size (bw HB)) hg (Kd.R_base HO.out)); have NOA7 := n7 NOA hg hat LTA; clear HO; have HO := Aside0.mk ho; clear ho hb hg hat hcW NOT NOW NOA LTA; obtain ⟨Ao, co, eo⟩ := Kd.R_slice HO.out; subst eo; obtain ⟨ad, hAo, hcells⟩ := cells_read (Kd.R_reads' HO.out).2.2 (by simp); subst hAo; have NAD : Aside0 (ad.block ≠ gA) := ⟨fun h => NOA7.out (by simp [Value.ownBlock, h])⟩; have HC7 := Aside0.mk hcells; clear hcells HO NOA7))
  go_loopg [8, 24] (l1.length + 1) (fun gk v8 v24 wr => ∃ (i : Nat) (z : Value), v8 = z ∧ v24 = .int .i64 i ∧ i ≤ l1.length + 1 ∧ l1.length + 1 - i ≤ gk ∧ Aside0 (wr.heap[gA]? = some (.cells #[.int .i64 (isum ((a0 :: l1).take i))] 3 (0, 0))) ∧ Aside0 (wr.heap[gT]? = some (.cells #[.int .i64 a0] 3 (0, 0))) ∧ Aside0 (wr.heap[gW]? = some (.cells #[.slice A1 l1.length c1] 22 (0, 0))) ∧ Aside0 (∀ i : Nat, i < ([a0] ++ l1).length → wr.cell? (ad.add i) = some (.int .i64 (rd ([a0] ++ l1) i))) ∧ Aside0 (Below w.heap.size w wr))
  case atStart => exact ⟨0, _, rfl, by go_num, by omega, by omega, BKA, BKT, BKW, HC7, HB⟩
  case round =>
    obtain ⟨i, z, rfl, rfl, hi, hgk, BKA, BKT, BKW, HCi, HB⟩ := hrel
    by_cases hlt : i < l1.length + 1
    · have hlz : (i : Int) < (l1.length : Int) + 1 := by omega
      have hlzb : decide ((i : Int) < (l1.length : Int) + 1) = true := decide_eq_true hlz
      have hci := HCi.out i (by simpa using hlt)
      have i101 : (i : Int) ≤ 101 := by have := HL.out; omega
      have hxb := rd_good ([a0] ++ l1) HG.out i (by simpa using hlt)
      have hsb := isum_take_bd ([a0] ++ l1) HG.out i
      have hsn := isum_take ([a0] ++ l1) i (by simpa using hlt)
      rw [show (a0 :: l1) = [a0] ++ l1 from rfl] at BKA
      obtain ⟨x, hx⟩ : ∃ x, rd ([a0] ++ l1) i = x := ⟨_, rfl⟩
      obtain ⟨s, hs⟩ : ∃ s, isum (([a0] ++ l1).take i) = s := ⟨_, rfl⟩
      rw [hx] at hci hxb hsn
      rw [hs] at BKA hsb hsn
      have HSN := Aside0.mk hsn
      clear hs hsn
      clear hx
      have x0 : decide (x < 0) = false := decide_eq_false (by omega)
      have x1 : decide (1073741824 < x) = false := decide_eq_false (by omega)
      obtain ⟨xb0, xb1⟩ := hxb
      have sb0 := hsb.1
      have sb1 : s ≤ 1073741824 * 101 := by have := hsb.2; have := HL.out; simp only [List.length_append, List.length_cons, List.length_nil] at hsb; omega
      clear hsb
      have hcA : wr.cell? ⟨gA, 0, none⟩ = some (.int .i64 s) := (blk_cell BKA.out 0).trans rfl
      have hfA := blk_frozen BKA.out 0
      go_wp2
      go_roundg (l1.length - i)
      case measure => omega
      case rel => exact ⟨i + 1, _, rfl, by go_num, by omega, by omega, ⟨by rw [show (a0 :: l1) = [a0] ++ l1 from rfl, HSN.out]; exact blk_put (cs := #[.int .i64 s]) BKA.out 0 _ rfl⟩, ⟨bq BKT⟩, ⟨bq BKW⟩, ⟨fun j hj => (cell_far (p := ⟨gA, 0, none⟩) (a := ad.add j) (by rw [show (ad.add j).block = ad.block from by unfold Addr.add; split <;> rfl]; exact NAD.out) _).trans (HCi.out j hj)⟩, ⟨bw HB⟩⟩
    · have hlz : ¬ (i : Int) < (l1.length : Int) + 1 := by omega
      have hlzb : decide ((i : Int) < (l1.length : Int) + 1) = false := decide_eq_false hlz
      have hil : i = (a0 :: l1).length := by simp only [List.length_cons]; omega
      rw [hil, List.take_length] at BKA
      clear hil HCi NAD HC7
      simp only [isum] at BKA
      rw [HS.out, Int.add_zero] at BKA
      have ha := HG.out a0 List.mem_cons_self
      simp only [bad, Bool.or_eq_false_iff, decide_eq_false_iff_not] at ha
      have a1 : 0 ≤ a0 := by omega
      have a2 : a0 ≤ 1073741824 := by omega
      have hsub : a0 - a0 = 0 := Int.sub_self a0
      clear ha
      have hcA : wr.cell? ⟨gA, 0, none⟩ = some (.int .i64 a0) := (blk_cell BKA.out 0).trans rfl
      have hfA := blk_frozen BKA.out 0
      have hcT : wr.cell? ⟨gT, 0, none⟩ = some (.int .i64 a0) := (blk_cell BKT.out 0).trans rfl
      have hcW : wr.cell? ⟨gW, 0, none⟩ = some (.slice A1 l1.length c1) := (blk_cell BKW.out 0).trans rfl
      go_wp2
      go_ret2
      exact ⟨_, rfl, Kd.R_nil _ _ _ _ _, bw HB⟩
set_option maxHeartbeats 1000000 in
set_option maxRecDepth 100000 in
theorem ap_bad (a0 : Int) (A1 : Option Addr) (c1 : Nat) (l1 : List Int) (w : World) (hr1 : Kd.C (Kd.int .i64) w A1 l1.length l1) (hc1 : l1.length ≤ c1) (hl : l1.length ≤ 100) (hgood : ∃ x ∈ a0 :: l1, bad x = true) :
    Calls Try.prog 15 #[.int .i64 a0, .slice A1 l1.length c1] w fun e w' => ∃ v0_ : Value, e = .returned (.tuple #[v0_, .int .i64 2]) ∧ Kd.R (Kd.int .i64) 3 w' w.heap.size (fun _ => True) v0_ [] ∧ Below w.heap.size w w' := by
  have HB := Aside0.mk (Below.refl w.heap.size w)
  have HR := Aside0.mk hr1
  have HL := Aside0.mk hl
  have HG := Aside0.mk hgood
  have c100 : decide (100 < (l1.length : Int)) = false := decide_eq_false (by omega)
  have c100b : decide (100 < l1.length) = false := decide_eq_false (by omega)
  clear hr1 hl hgood
  go_enter Try.func15, Try.ntmps15
  go_wp2_with (first | ((with_reducible refine gate_dst (N := 2) rfl ?_); refine box_event ?hg (N := 2) ?hd (cs := #[.int .i64 a0]) (t := 3) ?hr ?_; (case hd => rfl); (case hg => rfl); (case hr => first | (go_simp; done) | (go_simp; rfl)); intro gT hg w3 hbox hb; have BKT := Aside0.mk hbox; have GWT := gs HB hg; replace HB := wb HB hb; clear hb hbox hg) | ((with_reducible refine gate_dst (N := 3) rfl ?_); refine box_event ?hg (N := 3) ?hd (cs := #[.slice A1 l1.length c1]) (t := 22) ?hr ?_; (case hd => rfl); (case hg => rfl); (case hr => first | (go_simp; done) | (go_simp; rfl)); intro gW hg w4 hbox hb; have BKW := Aside0.mk hbox; have GWW := gs HB hg; have NTW := nl BKT hg; replace BKT := kb BKT hb; replace HB := wb HB hb; clear hb hbox hg; have hcT : w4.cell? ⟨gT, 0, none⟩ = some (.int .i64 a0) := (blk_cell BKT.out 0).trans rfl; have hcW : w4.cell? ⟨gW, 0, none⟩ = some (.slice A1 l1.length c1) := (blk_cell BKW.out 0).trans rfl) | ((with_reducible refine gate_dst (N := 6) rfl ?_); refine box_event ?hg (N := 6) ?hd (cs := #[.int .i64 0]) (t := 3) ?hr ?_; (case hd => rfl); (case hg => rfl); (case hr => first | (go_simp; done) | (go_simp; rfl)); intro gA hg w5 hbox hb; have BKA := Aside0.mk hbox; have GWA := gs HB hg; have NTA := nl BKT hg; have NWA := nl BKW hg; replace BKT := kb BKT hb; replace BKW := kb BKW hb; replace HB := wb HB hb; clear hb hbox hg hcT hcW; have hcT : w5.cell? ⟨gT, 0, none⟩ = some (.int .i64 a0) := (blk_cell BKT.out 0).trans rfl; have hcW : w5.cell? ⟨gW, 0, none⟩ = some (.slice A1 l1.length c1) := (blk_cell BKW.out 0).trans rfl; have hcA : w5.cell? ⟨gA, 0, none⟩ = some (.int .i64 0) := (blk_cell BKA.out 0).trans rfl; have hfA := blk_frozen BKA.out 0; obtain ⟨hnTA, hnAT⟩ := n2 NTA; obtain ⟨hnWA, hnAW⟩ := n2 NWA) | ((with_reducible refine gate_dst (N := 20) rfl ?_); refine Kd.R_lit (Kd.int .i64) _ 3 ?hg (N := 20) ?hd (xs := ([a0] : List Int)) (inner := [.int .i64 a0]) (ok := fun _ => True) (okp := fun _ => True) ?hr ?hp (fun _ hk => hk) trivial (Below.refl _ _) (Nat.le_refl _) (by simp) ?_; (case hd => rfl); (case hg => rfl); (case hr => first | (go_simp; done) | (go_simp; rfl)); (case hp => exact (Reps.one (show Kd.M (Kd.int .i64) _ _ _ a0 [.int .i64 a0] from rfl) (Reps.none _ _))); intro v6 w6 ho hb hg_ hnew_; have HO := Aside0.mk (Kd.R_lower ho (below_size (bw HB))); have NOT := nb BKT hnew_; have NOW := nb BKW hnew_; have NOA := nb (g := gA) (o := .cells #[.int .i64 0] 3 (0, 0)) (W := w5.setCell ⟨gA, 0, none⟩ (.int .i64 0)) ⟨by refine blk_put (cs := #[.int .i64 0]) ?_ 0 _ rfl; exact BKA.out⟩ hnew_; replace BKA := Aside0.mk (blk_below (g := gA) (o := .cells #[.int .i64 0] 3 (0, 0)) (by refine pe ?_; refine blk_put (cs := #[.int .i64 0]) ?_ 0 _ rfl; exact BKA.out) hb); replace BKT := kb BKT hb; replace BKW := kb BKW hb; replace HB := wb HB hb; clear hb ho hg_ hnew_ hcT hcW hcA hfA; have hcW : w6.cell? ⟨gW, 0, none⟩ = some (.slice A1 l1.length c1) := (blk_cell BKW.out 0).trans rfl) | ((with_reducible refine gate_builtin (b := .append) (xs := #[.tmp 20, .tmp 21]) rfl ?_); at_builtin; refine Kd.R_append_rows (Kd.int .i64) w.heap.size rfl (.tmp 20) (.tmp 21) 22 3 (.int .i64 0) 8 rfl Try.underlying22 infoI rfl (by decide) (by omega) v6 ([a0] : List Int) l1 _ _ _ (fun _ => True) (fun _ => False) rfl rfl ?aO ?aR (fun _ _ h => h) (fun _ h => h.elim) (fun _ _ => trivial) (Below.refl _ _) ?aS ?aL ?_; (case aR => exact Kd.C_below HR.out (bw HB)); (case aO => exact HO.out); (case aS => exact below_size (bw HB)); (case aL => have := HL.out; simp; omega); have LTA := lt7 (W1 := w6) BKA; intro v7 w7 ho hb hg hat; replace BKT := kg BKT hg NOT; replace BKW := kg BKW hg NOW; replace BKA := kg BKA hg NOA; replace HB := Aside0.mk (pw_below_grown (bw HB) _ (below_size (bw HB)) hg (Kd.R_base HO.out)); have NOA7 := n7 NOA hg hat LTA; clear HO; have HO := Aside0.mk ho; clear ho hb hg hat hcW NOT NOW NOA LTA; obtain ⟨Ao, co, eo⟩ := Kd.R_slice HO.out; subst eo; obtain ⟨ad, hAo, hcells⟩ := cells_read (Kd.R_reads' HO.out).2.2 (by simp); subst hAo; have NAD : Aside0 (ad.block ≠ gA) := ⟨fun h => NOA7.out (by simp [Value.ownBlock, h])⟩; have HC7 := Aside0.mk hcells; clear hcells HO NOA7))
  go_loopg [8, 24] (l1.length + 1) (fun gk v8 v24 wr => ∃ (i : Nat) (z : Value), v8 = z ∧ v24 = .int .i64 i ∧ i ≤ l1.length + 1 ∧ l1.length + 1 - i ≤ gk ∧ Aside0 (∀ x ∈ (a0 :: l1).take i, bad x = false) ∧ Aside0 (wr.heap[gA]? = some (.cells #[.int .i64 (isum ((a0 :: l1).take i))] 3 (0, 0))) ∧ Aside0 (wr.heap[gT]? = some (.cells #[.int .i64 a0] 3 (0, 0))) ∧ Aside0 (wr.heap[gW]? = some (.cells #[.slice A1 l1.length c1] 22 (0, 0))) ∧ Aside0 (∀ i : Nat, i < ([a0] ++ l1).length → wr.cell? (ad.add i) = some (.int .i64 (rd ([a0] ++ l1) i))) ∧ Aside0 (Below w.heap.size w wr))
  case atStart => exact ⟨0, _, rfl, by go_num, by omega, by omega, ⟨fun x hx => by simp at hx⟩, BKA, BKT, BKW, HC7, HB⟩
  case round =>
    obtain ⟨i, z, rfl, rfl, hi, hgk, HP, BKA, BKT, BKW, HCi, HB⟩ := hrel
    by_cases hlt : i < l1.length + 1
    · have hlz : (i : Int) < (l1.length : Int) + 1 := by omega
      have hlzb : decide ((i : Int) < (l1.length : Int) + 1) = true := decide_eq_true hlz
      have hci := HCi.out i (by simpa using hlt)
      have i101 : (i : Int) ≤ 101 := by have := HL.out; omega
      have hsb := isum_bd (([a0] ++ l1).take i) HP.out
      have hsn := isum_take ([a0] ++ l1) i (by simpa using hlt)
      rw [show (a0 :: l1) = [a0] ++ l1 from rfl] at BKA
      obtain ⟨x, hx⟩ : ∃ x, rd ([a0] ++ l1) i = x := ⟨_, rfl⟩
      obtain ⟨s, hs⟩ : ∃ s, isum (([a0] ++ l1).take i) = s := ⟨_, rfl⟩
      rw [hx] at hci hsn
      rw [hs] at BKA hsb hsn
      have HSN := Aside0.mk hsn
      clear hs hsn
      have hln : (([a0] ++ l1).take i).length ≤ 101 := by have := List.length_take_le i ([a0] ++ l1); have := HL.out; simp only [List.length_append, List.length_cons, List.length_nil] at *; omega
      have hsb2 : 0 ≤ s ∧ s ≤ 1073741824 * 101 := by omega
      clear hsb
      have HX := Aside0.mk hx
      clear hx
      have ilt : i < ([a0] ++ l1).length := by simpa using hlt
      by_cases hb0 : x < 0
      · have x0 : decide (x < 0) = true := decide_eq_true hb0
        have HI := Aside0.mk ilt
        clear ilt hln hsb2
        go_wp2
        go_ret2
        exact ⟨_, rfl, Kd.R_nil _ _ _ _ _, bw HB⟩
      · by_cases hb1 : 1073741824 < x
        · have x0 : decide (x < 0) = false := decide_eq_false hb0
          have x1 : decide (1073741824 < x) = true := decide_eq_true hb1
          have HI := Aside0.mk ilt
          clear ilt hln hsb2
          go_wp2
          go_ret2
          exact ⟨_, rfl, Kd.R_nil _ _ _ _ _, bw HB⟩
        · have hxb : 0 ≤ x ∧ x ≤ 1073741824 := by omega
          have HP1 : Aside0 (∀ y ∈ (a0 :: l1).take (i + 1), bad y = false) := ⟨fun y hy => by
            rw [show (a0 :: l1) = [a0] ++ l1 from rfl, List.take_succ_eq_append_getElem ilt, List.mem_append] at hy
            rcases hy with hy | hy
            · exact HP.out y hy
            · have : y = x := by rw [← HX.out, rd_get _ _ ilt]; exact List.mem_singleton.1 hy
              subst this; simp only [bad, Bool.or_eq_false_iff, decide_eq_false_iff_not]; omega⟩
          have hsb := hsb2
          clear hsb2 hln HX ilt hb0 hb1 HP
          have x0 : decide (x < 0) = false := decide_eq_false (by omega)
          have x1 : decide (1073741824 < x) = false := decide_eq_false (by omega)
          obtain ⟨xb0, xb1⟩ := hxb
          have sb0 := hsb.1
          have sb1 : s ≤ 1073741824 * 101 := by exact hsb.2
          clear hsb
          have hcA : wr.cell? ⟨gA, 0, none⟩ = some (.int .i64 s) := (blk_cell BKA.out 0).trans rfl
          have hfA := blk_frozen BKA.out 0
          go_wp2
          go_roundg (l1.length - i)
          case measure => omega
          case rel => exact ⟨i + 1, _, rfl, by go_num, by omega, by omega, HP1, ⟨by rw [show (a0 :: l1) = [a0] ++ l1 from rfl, HSN.out]; exact blk_put (cs := #[.int .i64 s]) BKA.out 0 _ rfl⟩, ⟨bq BKT⟩, ⟨bq BKW⟩, ⟨fun j hj => (cell_far (p := ⟨gA, 0, none⟩) (a := ad.add j) (by rw [show (ad.add j).block = ad.block from by unfold Addr.add; split <;> rfl]; exact NAD.out) _).trans (HCi.out j hj)⟩, ⟨bw HB⟩⟩
    · exfalso
      have hil : (a0 :: l1).length ≤ i := by simp only [List.length_cons]; omega
      obtain ⟨x, hx, hb⟩ := HG.out
      have := HP.out x (by rw [List.take_of_length_le hil]; exact hx)
      rw [this] at hb
      cases hb
end Go.Proofs.Ytcbohbeipgcfhaa.Given
