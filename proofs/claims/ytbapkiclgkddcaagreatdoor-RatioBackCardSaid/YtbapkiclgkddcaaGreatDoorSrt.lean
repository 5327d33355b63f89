/- slices.SortStableFunc at fewer than 20 numbers, for a comparison that reads only: the row behind the call holds what insertion sort makes of it. Turned out of the shelf's walk of the insertion sort, over this program. -/
import Derived.Test.YtbapkiclgkddcaaGreatDoorProg
import Derived.Shelf.SlicesE.Kit
import Derived.Sort.WalkA
import Derived.Sort.WalkC
import Derived.Sort.Grow
import Derived.Deep.LoopGhost
import Derived.Deep.QuietTactic
import Derived.BigQuiet
import Derived.BigRegion
import Derived.WalkKit
import Derived.Laws.BitsLemmas
namespace Go.Proofs.YtbapkiclgkddcaaGreatDoor.Given
open Go.RowKit Go.Lib Go.Sort Go.Proofs
variable {α : Type} [Inhabited α]
set_option linter.unusedVariables false

structure Asd (p : Prop) : Prop where mk :: (out : p)
def ltC (cf : α → α → Int) (x y : α) : Bool := decide (cf x y < 0)
/-- What the sort asks of the comparison: in every world that it passes through, called with two values it hands back cf x y, and reads only. -/
def CmpR (cb : Array Value) (enc : α → Value) (cf : α → α → Int) (blk off size : Nat) (w : World) : Prop :=
  ∀ (dk : Array α), dk.size = size → ∀ x y : α, ∀ m n, Calls Tryz.prog 61 (#[enc x, enc y] ++ cb) (((putRow enc w blk off dk).drewN m).drewN n) fun e w' => e = .returned (.int .i64 (cf x y)) ∧ ∃ q, w' = (((putRow enc w blk off dk).drewN m).drewN n).drewN q

set_option maxHeartbeats 4000000 in
set_option maxRecDepth 1000000 in
theorem insSort (enc : α → Value) (hO : OneCell enc) (cf : α → α → Int) (cb : Array Value) (blk off cap a b : Nat) (d : Array α) (w : World)
    (hcmp : CmpR cb enc cf blk off d.size w) (hH : Holds enc w blk off d) (hab : a ≤ b) (hb : b ≤ d.size) (hsz : d.size < 4611686018427387904) :
    Calls Tryz.prog 100 #[.slice (some ⟨blk, off, none⟩) d.size cap, .int .i64 a, .int .i64 b, .func (.func 61) #[] cb] w fun e w' =>
      e = .returned (.tuple #[]) ∧ ∃ n, w' = (putRow enc w blk off (Sort.insertionSort (ltC cf) d a b)).drewN n := by
  have hcl0 := hO.cells
  simp only [Value.cells] at hcl0
  have hst := hO.store Tryz.prog
  have HC : Aside _ := hcmp
  have HST : Hid (w = (putRow enc w blk off d).drewN 0) := (putRow_self enc w blk off d hH).symm
  have HH : Hid (Holds enc w blk off d) := hH
  clear hcmp hH
  go_enter Tryz.func100, Tryz.ntmps100
  go_wp2
  go_loopg [8] (b - a) (fun g1 vi wr => ∃ (i n : Nat) (dk : Array α), vi = .int .i64 i ∧ a < i ∧ i ≤ b + 1 ∧ b + 1 - i ≤ g1 + 1 ∧ dk.size = d.size ∧ wr = (putRow enc w blk off dk).drewN n ∧ Hid (insOuter (ltC cf) a b i dk = insOuter (ltC cf) a b (a + 1) d))
  case atStart => exact ⟨a + 1, 0, d, by go_num, by omega, by omega, by omega, rfl, HST.out, rfl⟩
  case round =>
    obtain ⟨i, n, dk, rfl, hai, hib, hg1, hsk, rfl, HO⟩ := hrel
    by_cases hlt : i < b
    · have hltz : (i : Int) < (b : Int) := by omega
      go_wp2
      go_loopg [9] i (fun g2 vj wr2 => ∃ (j m : Nat) (dj : Array α), vj = .int .i64 j ∧ a ≤ j ∧ j ≤ i ∧ j ≤ g2 ∧ dj.size = d.size ∧ wr2 = (putRow enc w blk off dj).drewN m ∧ Hid (insInner (ltC cf) a j dj = insInner (ltC cf) a i dk))
      case atStart => exact ⟨i, n, dk, rfl, by omega, Nat.le_refl _, Nat.le_refl _, hsk, rfl, rfl⟩
      case round =>
        obtain ⟨j, m, dj, rfl, haj, hji, hg2, hsj, rfl, HI⟩ := hrel
        have out : (j ≤ a ∨ ltC cf dj[j]! dj[j - 1]! = false) → Hid (insOuter (ltC cf) a b (i + 1) dj = insOuter (ltC cf) a b (a + 1) d) := fun hs => by
          show _ = _
          rw [← HO.out, insOuter_go _ _ _ _ _ hlt, ← HI.out, insInner_stop _ _ _ _ hs]
        have OUT : Aside _ := out
        clear out
        by_cases hja : a < j
        · have hjaz : (a : Int) < (j : Int) := by omega
          have hHj := holds_putRow enc w blk off d dj HH.out hsj
          obtain ⟨xj, hxj⟩ : ∃ x, dj[j]! = x := ⟨_, rfl⟩
          obtain ⟨xp, hxp⟩ : ∃ x, dj[j - 1]! = x := ⟨_, rfl⟩
          obtain ⟨cj, fj⟩ := hHj j (by omega)
          obtain ⟨cp, fp⟩ := hHj (j - 1) (by omega)
          rw [hxj] at cj
          rw [hxp] at cp
          obtain ⟨jp, rfl⟩ : ∃ jp, j = jp + 1 := ⟨j - 1, by omega⟩
          simp only [Nat.add_sub_cancel] at cp fp hxp
          have hwp : IntKind.i64.wrap (jp : Int) = (jp : Int) := by rw [IntKind.wrap_i64]; omega
          have jz : (jp : Int) + 1 < (d.size : Int) := by omega
          have jz1 : (jp : Int) < (d.size : Int) := by omega
          have hjaz' : (a : Int) < (jp : Int) + 1 := by omega
          have p0 : (0 : Int) ≤ (jp : Int) + 1 := by omega
          have e0 : ((jp : Int) + 1).toNat = jp + 1 := by omega
          have hc := HC.out dj hsj xj xp m
          clear hHj
          have cj' : ((putRow enc w blk off dj).drewN m).cell? ⟨blk, off + (jp + 1), none⟩ = some (enc xj) := cj
          have cp' : ((putRow enc w blk off dj).drewN m).cell? ⟨blk, off + jp, none⟩ = some (enc xp) := cp
          have fj' : ((putRow enc w blk off dj).drewN m).frozen? ⟨blk, off + (jp + 1), none⟩ = false := fj
          have fp' : ((putRow enc w blk off dj).drewN m).frozen? ⟨blk, off + jp, none⟩ = false := fp
          clear cj cp fj fp
          generalize hwq : (putRow enc w blk off dj).drewN m = wq at cj' cp' fj' fp' hc ⊢
          by_cases hlv : cf xj xp < 0
          · go_wp2_with fail
            go_quiet (first | (go_at_call 61; refine Calls.quiet_of (hc _)))
            go_wp2_with fail
            have hw2 : wq.drewN nq = (putRow enc w blk off dj).drewN (m + nq) := by rw [← hwq, World.drewN_drewN]
            have cj2 : (wq.drewN nq).cell? ⟨blk, off + (jp + 1), none⟩ = some (enc xj) := cj'
            have cp2 : (wq.drewN nq).cell? ⟨blk, off + jp, none⟩ = some (enc xp) := cp'
            have fj2 : (wq.drewN nq).frozen? ⟨blk, off + (jp + 1), none⟩ = false := fj'
            have fp2 : (wq.drewN nq).frozen? ⟨blk, off + jp, none⟩ = false := fp'
            clear cj' cp' fj' fp' hc
            generalize wq.drewN nq = wq2 at hw2 cj2 cp2 fj2 fp2 ⊢
            obtain ⟨j1, hj1⟩ : ∃ j1, j1 = jp + 1 := ⟨_, rfl⟩
            rw [← hj1] at cj2 fj2 e0
            have J1 : Hid (j1 = jp + 1) := hj1
            have HW2 : Hid (wq2 = (putRow enc w blk off dj).drewN (m + nq)) := hw2
            clear hj1 hw2
            go_big_region
            all_goals go_wp2
            go_roundg jp
            case measure => omega
            case rel =>
              refine ⟨jp, m + nq + 1, swp dj (jp + 1) jp, by first | rfl | go_num | (congr 1; omega), by omega, by omega, Nat.le_refl _, by rw [size_swp]; exact hsj, ?_, (show Hid _ from ?_)⟩
              · rw [J1.out, HW2.out, ← hxp, ← hxj]
                exact swap_worldC enc w blk off dj (m + nq) (jp + 1) jp (by omega) (by omega)
              · show _ = _
                have := insInner_go (ltC cf) a (jp + 1) dj hja (by simp only [Nat.add_sub_cancel]; rw [hxj, hxp]; exact decide_eq_true hlv)
                simp only [Nat.add_sub_cancel] at this
                rw [← HI.out, this]
          · go_wp2_with fail
            go_quiet (first | (go_at_call 61; refine Calls.quiet_of (hc _)))
            go_wp2
            go_roundg (b - (i + 1))
            case measure => omega
            case rel => exact ⟨i + 1, _, dj, by go_num, by omega, by omega, by omega, hsj, by rw [← hwq, World.drewN_drewN], OUT.out (Or.inr (by simp only [Nat.add_sub_cancel]; rw [hxj, hxp]; exact decide_eq_false (by omega)))⟩
        · have hjaz : decide ((j : Int) > (a : Int)) = false := decide_eq_false (by omega)
          have hjaz' : ¬ (a : Int) < (j : Int) := by omega
          generalize hwq : (putRow enc w blk off dj).drewN m = wq
          go_wp2_with fail
          go_big_region
          all_goals go_wp2
          go_roundg (b - (i + 1))
          case measure => omega
          case rel => exact ⟨i + 1, _, dj, by go_num, by omega, by omega, by omega, hsj, (show _ = (putRow enc w blk off dj).drewN (m + 1) from by first | rfl | (rw [← hwq]; rfl)), OUT.out (Or.inl (by omega))⟩
    · have hltz : ¬ (i : Int) < (b : Int) := by omega
      go_wp2
      go_end0
      exact ⟨rfl, n, by unfold Sort.insertionSort; rw [← HO.out, insOuter_stop _ _ _ _ _ hlt]⟩

set_option maxHeartbeats 4000000 in
set_option maxRecDepth 1000000 in
theorem stable20 (enc : α → Value) (hO : OneCell enc) (cf : α → α → Int) (cb : Array Value) (blk off cap : Nat) (d : Array α) (w : World)
    (hcmp : CmpR cb enc cf blk off d.size w) (hH : Holds enc w blk off d) (hn : d.size < 20) :
    Calls Tryz.prog 88 #[.slice (some ⟨blk, off, none⟩) d.size cap, .int .i64 d.size, .func (.func 61) #[] cb] w fun e w' =>
      e = .returned (.tuple #[]) ∧ ∃ n, w' = (putRow enc w blk off (Sort.insertionSort (ltC cf) d 0 d.size)).drewN n := by
  have hi := insSort enc hO cf cb blk off cap 0 d.size d w hcmp hH (Nat.zero_le _) (Nat.le_refl _) (by omega)
  rw [show ((0 : Nat) : Int) = 0 from rfl] at hi
  have HI := Asd.mk hi
  clear hi hcmp hH
  have h1 : ¬ (20 : Int) ≤ (d.size : Int) := by omega
  have h2 : ¬ (20 : Int) < (d.size : Int) := by omega
  go_enter Tryz.func88, Tryz.ntmps88
  go_wp2
  refine wp_loop_rounds 1 ?_
  rw [rounds_succ]
  go_wp2_with (go_at_call 100; refine HI.out.mono ?_; rintro e w' ⟨rfl, n, rfl⟩)
  refine wp_loop_rounds 1 ?_
  rw [rounds_succ]
  go_wp2
  go_end0
  exact ⟨rfl, n, rfl⟩

set_option maxHeartbeats 4000000 in
set_option maxRecDepth 1000000 in
theorem sortStable20 (enc : α → Value) (hO : OneCell enc) (cf : α → α → Int) (cb : Array Value) (blk off cap : Nat) (d : Array α) (w : World)
    (hcmp : CmpR cb enc cf blk off d.size w) (hH : Holds enc w blk off d) (hn : d.size < 20) :
    Calls Tryz.prog 60 #[.slice (some ⟨blk, off, none⟩) d.size cap, .func (.func 61) #[] cb] w fun e w' =>
      e = .returned (.tuple #[]) ∧ ∃ n, w' = (putRow enc w blk off (Sort.insertionSort (ltC cf) d 0 d.size)).drewN n := by
  have hi := stable20 enc hO cf cb blk off cap d w hcmp hH hn
  have HI := Asd.mk hi
  clear hi hcmp hH
  go_enter Tryz.func60, Tryz.ntmps60
  go_wp2_with fail
  refine HI.out.mono ?_
  rintro e w' ⟨rfl, n, rfl⟩
  go_wp2
  go_end0
  exact ⟨rfl, n, rfl⟩
end Go.Proofs.YtbapkiclgkddcaaGreatDoor.Given
