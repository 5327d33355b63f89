/- symMergeCmpFunc of package slices: two runs become one. -/
import Derived.Test.YtbapkiclgkddcaaGreatDoorStbW
namespace Go.Proofs.YtbapkiclgkddcaaGreatDoor.Given
open Go.RowKit Go.Lib Go.Sort Go.Proofs
variable {α : Type} [Inhabited α]
set_option linter.unusedVariables false

theorem half_eq (i j : Nat) (h : i + j < 9223372036854775808) : wrap64 (IntKind.u64.wrap (wrap64 ((i : Int) + (j : Int))) / 2) = (((i + j) / 2 : Nat) : Int) := by
  have e0 : wrap64 ((i : Int) + (j : Int)) = (i : Int) + (j : Int) := by unfold wrap64; omega
  rw [e0]
  have e1 : IntKind.u64.wrap ((i : Int) + (j : Int)) = ((i + j : Nat) : Int) := by rw [IntKind.wrap_u64]; omega
  rw [e1]
  have e2 : ((i + j : Nat) : Int) / 2 = (((i + j) / 2 : Nat) : Int) := by omega
  rw [e2]
  unfold wrap64
  have e3 : (i + j) / 2 < 9223372036854775808 := by omega
  omega
set_option maxHeartbeats 4000000 in
set_option maxRecDepth 1000000 in
/-- one element on the left -/
theorem symOneL (enc : α → Value) (hO : OneCell enc) (cf : α → α → Int) (key : α → Nat) (hS : SWO (ltC cf)) (cb : Array Value) (blk off cap a b : Nat) (d : Array α) (w : World)
    (hcmp : CmpR cb enc cf blk off d.size w) (hH : Holds enc w blk off d) (hab : a + 1 < b) (hb : b ≤ d.size) (hsz : d.size < 4611686018427387904) (hR : Runs (lt2 (ltC cf) key) key a (a + 1) b d) :
    Calls Tryz.prog 101 #[.slice (some ⟨blk, off, none⟩) d.size cap, .int .i64 a, .int .i64 ((a + 1 : Nat) : Int), .int .i64 b, .func (.func 61) #[] cb] w fun e w' =>
      e = .returned (.tuple #[]) ∧ ∃ d', PermIn a b d d' ∧ SortedIn (lt2 (ltC cf) key) a b d' ∧ ∃ q, w' = (putRow enc w blk off d').drewN q := by
  have hcl0 := hO.cells
  simp only [Value.cells] at hcl0
  have hst := hO.store Tryz.prog
  have HC : Asd _ := ⟨hcmp⟩
  have HST : Hid (w = (putRow enc w blk off d).drewN 0) := (putRow_self enc w blk off d hH).symm
  have HH : Hid (Holds enc w blk off d) := hH
  have HB := Asd.mk (show a + 1 < b ∧ b ≤ d.size ∧ d.size < 4611686018427387904 from ⟨hab, hb, hsz⟩)
  have HR := Asd.mk hR
  obtain ⟨m, hm⟩ : ∃ m, m = a + 1 := ⟨_, rfl⟩
  rw [← hm]
  have wm : IntKind.i64.wrap ((m : Int) - (a : Int)) = 1 := by rw [IntKind.wrap_i64]; omega
  have HM := Asd.mk hm
  clear hcmp hH hab hb hsz hR hm
  go_enter Tryz.func101, Tryz.ntmps101
  go_wp2
  go_loopg [10, 11] (b - m) (fun g1 vi vj wr => ∃ (i j q : Nat), vi = .int .i64 i ∧ vj = .int .i64 j ∧ j - i ≤ g1 ∧ Asd (m ≤ i ∧ i ≤ j ∧ j ≤ b) ∧ Asd ((i = m ∨ lt2 (ltC cf) key d[i - 1]! d[a]! = true) ∧ (j = b ∨ lt2 (ltC cf) key d[j]! d[a]! = false)) ∧ wr = (putRow enc w blk off d).drewN q)
  case atStart =>
    have hB := HB.out
    have hM := HM.out
    exact ⟨m, b, 0, by go_num, by go_num, by omega, ⟨by omega⟩, ⟨Or.inl rfl, Or.inl rfl⟩, HST.out⟩
  case round =>
    obtain ⟨i, j, q, rfl, rfl, hg1, HI, HT, rfl⟩ := hrel
    by_cases hlt : i < j
    · have hltz : (i : Int) < (j : Int) := by omega
      have hB := HB.out
      have hI := HI.out
      obtain ⟨s, hs⟩ : ∃ s, s = i + j := ⟨_, rfl⟩
      obtain ⟨h, hh⟩ : ∃ h, h = s / 2 := ⟨_, rfl⟩
      have bh : (h : Int) < (d.size : Int) := by omega
      have ba : (a : Int) < (d.size : Int) := by omega
      have hHj := holds_putRow enc w blk off d d HH.out rfl
      obtain ⟨vh, hvh⟩ : ∃ v, d[h]! = v := ⟨_, rfl⟩
      obtain ⟨va, hva⟩ : ∃ v, d[a]! = v := ⟨_, rfl⟩
      obtain ⟨ch, _⟩ := hHj h (by omega)
      obtain ⟨ca, _⟩ := hHj a (by omega)
      rw [hvh] at ch
      rw [hva] at ca
      clear hHj
      have ch' : ((putRow enc w blk off d).drewN q).cell? ⟨blk, off + h, none⟩ = some (enc vh) := ch
      have ca' : ((putRow enc w blk off d).drewN q).cell? ⟨blk, off + a, none⟩ = some (enc va) := ca
      clear ch ca
      have hc := HC.out d rfl vh va q
      have HF : Asd (i ≤ h ∧ h < j ∧ j ≤ b ∧ m ≤ i ∧ b ≤ d.size ∧ d.size < 4611686018427387904 ∧ lt2 (ltC cf) key d[h]! d[a]! = decide (cf vh va < 0)) := ⟨by omega, by omega, by omega, by omega, by omega, by omega, by
        have hM := HM.out
        rw [lt2_back (HR.out.cross a h (Nat.le_refl _) (by omega) (by omega) (by omega)), hvh, hva]; rfl⟩
      have k1 : i + j < 9223372036854775808 := by omega
      have hvv := half_eq i j k1
      rw [← hs, ← hh] at hvv
      clear hB hI hs hh hvh hva k1
      obtain ⟨wq, hwq⟩ : ∃ wq, wq = (putRow enc w blk off d).drewN q := ⟨_, rfl⟩
      rw [← hwq] at ch' ca' hc ⊢
      have HW := Asd.mk hwq
      clear hwq
      by_cases hlv : cf vh va < 0
      · go_wp2_with fail
        go_quiet (first | (go_at_call 61; refine Calls.quiet_of (hc _)))
        go_wp2
        have HVV := Asd.mk hvv
        clear hvv
        go_roundg (j - (h + 1))
        case measure => have := HF.out; omega
        case rel =>
          have hF := HF.out
          rw [decide_eq_true hlv] at hF
          refine ⟨h + 1, j, q + nq, by (try rw [HVV.out]); congr 1; unfold wrap64; omega, rfl, by omega, ⟨by omega⟩, ⟨Or.inr (by rw [Nat.add_sub_cancel]; exact hF.2.2.2.2.2.2), HT.out.2⟩, by rw [HW.out, World.drewN_drewN]⟩
      · go_wp2_with fail
        go_quiet (first | (go_at_call 61; refine Calls.quiet_of (hc _)))
        go_wp2
        have HVV := Asd.mk hvv
        clear hvv
        go_roundg (h - i)
        case measure => have := HF.out; omega
        case rel =>
          have hF := HF.out
          rw [decide_eq_false (show ¬ cf vh va < 0 by omega)] at hF
          refine ⟨i, h, q + nq, rfl, by first | rfl | rw [HVV.out], by omega, ⟨by omega⟩, ⟨HT.out.1, Or.inr hF.2.2.2.2.2.2⟩, by rw [HW.out, World.drewN_drewN]⟩
    · have hltz : ¬ (i : Int) < (j : Int) := by omega
      have hI := HI.out
      obtain rfl : j = i := by omega
      have hM := HM.out
      have hB := HB.out
      subst hM
      obtain ⟨f1, f2⟩ := found_left (lt2_swo hS key) HR.out.right hI.1 (by omega) HT.out.1 HT.out.2
      have HE := Asd.mk (ins_left (lt2_swo hS key) hB.2.1 hI.1 (by omega) HR.out.right f1 f2 (by omega))
      have HJ := Asd.mk (show a + 1 ≤ j ∧ j ≤ b ∧ b ≤ d.size ∧ d.size < 4611686018427387904 by omega)
      have wj : IntKind.i64.wrap ((j : Int) - 1) = ((j - 1 : Nat) : Int) := by rw [IntKind.wrap_i64]; omega
      clear f1 f2 hB hI HT HI
      go_wp2
      go_loopg [13] (j - 1 - a) (fun g1 vi wr => ∃ (k q : Nat) (dk : Array α), vi = .int .i64 k ∧ j - 1 - k ≤ g1 ∧ Asd (a ≤ k ∧ k ≤ j - 1 ∧ dk.size = d.size) ∧ Asd (shUp (j - 1 - k) k dk = shUp (j - 1 - a) a d) ∧ wr = (putRow enc w blk off dk).drewN q)
      case atStart => have := HJ.out; exact ⟨a, q, d, by go_num, by omega, ⟨by omega⟩, ⟨rfl⟩, rfl⟩
      case round =>
        obtain ⟨k, q2, dk, rfl, hg2, HK, HU, rfl⟩ := hrel
        have hJ := HJ.out
        have hK := HK.out
        by_cases hkt : k < j - 1
        · have hktz : (k : Int) < ((j - 1 : Nat) : Int) := by omega
          obtain ⟨k1, hk1⟩ : ∃ k1, k1 = k + 1 := ⟨_, rfl⟩
          have wk : IntKind.i64.wrap ((k : Int) + 1) = (k1 : Int) := by rw [IntKind.wrap_i64]; omega
          have bk : (k : Int) < (d.size : Int) := by omega
          have bk1 : (k1 : Int) < (d.size : Int) := by omega
          have ne1 : ¬ k = k1 := by omega
          have ne2 : ¬ k1 = k := by omega
          have hHj := holds_putRow enc w blk off d dk HH.out hK.2.2
          obtain ⟨vx, hvx⟩ : ∃ v, dk[k]! = v := ⟨_, rfl⟩
          obtain ⟨vy, hvy⟩ : ∃ v, dk[k1]! = v := ⟨_, rfl⟩
          obtain ⟨cx, fx⟩ := hHj k (by omega)
          obtain ⟨cy, fy⟩ := hHj k1 (by omega)
          rw [hvx] at cx
          rw [hvy] at cy
          clear hHj
          have cx' : ((putRow enc w blk off dk).drewN q2).cell? ⟨blk, off + k, none⟩ = some (enc vx) := cx
          have cy' : ((putRow enc w blk off dk).drewN q2).cell? ⟨blk, off + k1, none⟩ = some (enc vy) := cy
          have fx' : ((putRow enc w blk off dk).drewN q2).frozen? ⟨blk, off + k, none⟩ = false := fx
          have fy' : ((putRow enc w blk off dk).drewN q2).frozen? ⟨blk, off + k1, none⟩ = false := fy
          clear cx cy fx fy
          have HF : Asd (k1 = k + 1 ∧ k < j - 1 ∧ k1 < dk.size ∧ dk[k]! = vx ∧ dk[k1]! = vy) := ⟨by omega, hkt, by omega, hvx, hvy⟩
          clear hk1 hvx hvy hJ hK
          obtain ⟨wq, hwq⟩ : ∃ wq, wq = (putRow enc w blk off dk).drewN q2 := ⟨_, rfl⟩
          rw [← hwq] at cx' cy' fx' fy' ⊢
          have HW := Asd.mk hwq
          clear hwq
          go_wp2_with fail
          go_big_region
          all_goals go_wp2
          go_roundg (j - 1 - k1)
          case measure => have := HF.out; omega
          case rel =>
            obtain ⟨e1, e2, e3, v1, v2⟩ := HF.out
            have hJ := HJ.out
            have hK := HK.out
            refine ⟨k1, q2 + 1, swp dk k k1, by first | rfl | (congr 1; unfold wrap64; omega), by omega, ⟨by rw [size_swp]; omega⟩, ⟨?_⟩, ?_⟩
            · rw [← HU.out, show j - 1 - k = (j - 1 - k1) + 1 from by omega, e1]; rfl
            · rw [HW.out, ← v1, ← v2]
              exact swap_worldC enc w blk off dk q2 k k1 (by omega) e3
        · have hktz : ¬ (k : Int) < ((j - 1 : Nat) : Int) := by omega
          clear hJ hK
          go_wp2
          refine bodyPost_ret (results_none rfl _ _ _) rfl ?_
          have hU := HU.out
          rw [show j - 1 - k = 0 from by omega] at hU
          exact ⟨rfl, dk, by rw [show dk = _ from hU]; exact HE.out.1, by rw [show dk = _ from hU]; exact HE.out.2, q2, rfl⟩
set_option maxHeartbeats 4000000 in
set_option maxRecDepth 1000000 in
/-- one element on the right -/
theorem symOneR (enc : α → Value) (hO : OneCell enc) (cf : α → α → Int) (key : α → Nat) (hS : SWO (ltC cf)) (cb : Array Value) (blk off cap a m : Nat) (d : Array α) (w : World)
    (hcmp : CmpR cb enc cf blk off d.size w) (hH : Holds enc w blk off d) (hab : a + 1 < m) (hb : m < d.size) (hsz : d.size < 4611686018427387904) (hR : Runs (lt2 (ltC cf) key) key a m (m + 1) d) :
    Calls Tryz.prog 101 #[.slice (some ⟨blk, off, none⟩) d.size cap, .int .i64 a, .int .i64 m, .int .i64 ((m + 1 : Nat) : Int), .func (.func 61) #[] cb] w fun e w' =>
      e = .returned (.tuple #[]) ∧ ∃ d', PermIn a (m + 1) d d' ∧ SortedIn (lt2 (ltC cf) key) a (m + 1) d' ∧ ∃ q, w' = (putRow enc w blk off d').drewN q := by
  have hcl0 := hO.cells
  simp only [Value.cells] at hcl0
  have hst := hO.store Tryz.prog
  have HC : Asd _ := ⟨hcmp⟩
  have HST : Hid (w = (putRow enc w blk off d).drewN 0) := (putRow_self enc w blk off d hH).symm
  have HH : Hid (Holds enc w blk off d) := hH
  have HB := Asd.mk (show a + 1 < m ∧ m < d.size ∧ d.size < 4611686018427387904 from ⟨hab, hb, hsz⟩)
  have HR := Asd.mk hR
  obtain ⟨b, hm⟩ : ∃ b, b = m + 1 := ⟨_, rfl⟩
  rw [← hm]
  obtain ⟨z, hz⟩ : ∃ z, z = m - a := ⟨_, rfl⟩
  have z1 : ¬ (z : Int) = 1 := by omega
  have z2 : ((z : Int) == 1) = false := beq_eq_false_iff_ne.mpr z1
  have wm : IntKind.i64.wrap ((m : Int) - (a : Int)) = (z : Int) := by rw [IntKind.wrap_i64]; omega
  have wb : IntKind.i64.wrap ((b : Int) - (m : Int)) = 1 := by clear wm; rw [IntKind.wrap_i64]; omega
  clear hz
  have HM := Asd.mk hm
  clear hcmp hH hab hb hsz hR hm
  go_enter Tryz.func101, Tryz.ntmps101
  go_wp2
  go_loopg [14, 15] (m - a) (fun g1 vi vj wr => ∃ (i j q : Nat), vi = .int .i64 i ∧ vj = .int .i64 j ∧ j - i ≤ g1 ∧ Asd (a ≤ i ∧ i ≤ j ∧ j ≤ m) ∧ Asd ((i = a ∨ lt2 (ltC cf) key d[m]! d[i - 1]! = false) ∧ (j = m ∨ lt2 (ltC cf) key d[m]! d[j]! = true)) ∧ wr = (putRow enc w blk off d).drewN q)
  case atStart =>
    have hB := HB.out
    have hM := HM.out
    exact ⟨a, m, 0, by go_num, by go_num, by omega, ⟨by omega⟩, ⟨Or.inl rfl, Or.inl rfl⟩, HST.out⟩
  case round =>
    obtain ⟨i, j, q, rfl, rfl, hg1, HI, HT, rfl⟩ := hrel
    by_cases hlt : i < j
    · have hltz : (i : Int) < (j : Int) := by omega
      have hB := HB.out
      have hI := HI.out
      obtain ⟨s, hs⟩ : ∃ s, s = i + j := ⟨_, rfl⟩
      obtain ⟨h, hh⟩ : ∃ h, h = s / 2 := ⟨_, rfl⟩
      have bh : (h : Int) < (d.size : Int) := by omega
      have bm : (m : Int) < (d.size : Int) := by omega
      have hHj := holds_putRow enc w blk off d d HH.out rfl
      obtain ⟨vh, hvh⟩ : ∃ v, d[h]! = v := ⟨_, rfl⟩
      obtain ⟨vm, hva⟩ : ∃ v, d[m]! = v := ⟨_, rfl⟩
      obtain ⟨ch, _⟩ := hHj h (by omega)
      obtain ⟨ca, _⟩ := hHj m (by omega)
      rw [hvh] at ch
      rw [hva] at ca
      clear hHj
      have ch' : ((putRow enc w blk off d).drewN q).cell? ⟨blk, off + h, none⟩ = some (enc vh) := ch
      have ca' : ((putRow enc w blk off d).drewN q).cell? ⟨blk, off + m, none⟩ = some (enc vm) := ca
      clear ch ca
      have hc := HC.out d rfl vm vh q
      have HF : Asd (i ≤ h ∧ h < j ∧ j ≤ m ∧ a ≤ i ∧ m < d.size ∧ d.size < 4611686018427387904 ∧ lt2 (ltC cf) key d[m]! d[h]! = decide (cf vm vh < 0)) := ⟨by omega, by omega, by omega, by omega, by omega, by omega, by
        have hM := HM.out
        rw [lt2_back (HR.out.cross h m (by omega) (by omega) (by omega) (by omega)), hvh, hva]; rfl⟩
      have k1 : i + j < 9223372036854775808 := by omega
      have hvv := half_eq i j k1
      rw [← hs, ← hh] at hvv
      clear hB hI hs hh hvh hva k1
      obtain ⟨wq, hwq⟩ : ∃ wq, wq = (putRow enc w blk off d).drewN q := ⟨_, rfl⟩
      rw [← hwq] at ch' ca' hc ⊢
      have HW := Asd.mk hwq
      clear hwq
      by_cases hlv : cf vm vh < 0
      · have hdv : decide (cf vm vh < 0) = true := decide_eq_true hlv
        go_wp2_with fail
        go_quiet (first | (go_at_call 61; refine Calls.quiet_of (hc _)))
        go_wp2
        have HVV := Asd.mk hvv
        clear hvv
        go_roundg (h - i)
        case measure => have := HF.out; omega
        case rel =>
          have hF := HF.out
          rw [decide_eq_true hlv] at hF
          refine ⟨i, h, q + nq, rfl, by first | rfl | rw [HVV.out], by omega, ⟨by omega⟩, ⟨HT.out.1, Or.inr hF.2.2.2.2.2.2⟩, by rw [HW.out, World.drewN_drewN]⟩
      · have hdv : decide (cf vm vh < 0) = false := decide_eq_false hlv
        go_wp2_with fail
        go_quiet (first | (go_at_call 61; refine Calls.quiet_of (hc _)))
        go_wp2
        have HVV := Asd.mk hvv
        clear hvv
        go_roundg (j - (h + 1))
        case measure => have := HF.out; omega
        case rel =>
          have hF := HF.out
          rw [decide_eq_false (show ¬ cf vm vh < 0 by omega)] at hF
          refine ⟨h + 1, j, q + nq, by (try rw [HVV.out]); congr 1; unfold wrap64; omega, rfl, by omega, ⟨by omega⟩, ⟨Or.inr (by rw [Nat.add_sub_cancel]; exact hF.2.2.2.2.2.2), HT.out.2⟩, by rw [HW.out, World.drewN_drewN]⟩
    · have hltz : ¬ (i : Int) < (j : Int) := by omega
      have hI := HI.out
      obtain rfl : j = i := by omega
      have hM := HM.out
      have hB := HB.out
      subst hM
      obtain ⟨f1, f2⟩ := found_right (lt2_swo hS key) HR.out.left hI.1 (by omega) HT.out.1 HT.out.2
      have HE := Asd.mk (ins_right (lt2_swo hS key) hB.2.1 hI.1 (by omega) HR.out.left f1 f2)
      have HJ := Asd.mk (show a ≤ j ∧ j ≤ m ∧ m < d.size ∧ d.size < 4611686018427387904 by omega)
      clear f1 f2 hB hI HT HI
      go_wp2
      go_loopg [17] (m - j) (fun g1 vi wr => ∃ (k q : Nat) (dk : Array α), vi = .int .i64 k ∧ k - j ≤ g1 ∧ Asd (j ≤ k ∧ k ≤ m ∧ dk.size = d.size) ∧ Asd (shDn (k - j) k dk = shDn (m - j) m d) ∧ wr = (putRow enc w blk off dk).drewN q)
      case atStart => have := HJ.out; exact ⟨m, q, d, by go_num, by omega, ⟨by omega⟩, ⟨rfl⟩, rfl⟩
      case round =>
        obtain ⟨k, q2, dk, rfl, hg2, HK, HU, rfl⟩ := hrel
        have hJ := HJ.out
        have hK := HK.out
        by_cases hkt : j < k
        · have hktz : (j : Int) < (k : Int) := by omega
          obtain ⟨k1, hk1⟩ : ∃ k1, k1 = k - 1 := ⟨_, rfl⟩
          have wk : IntKind.i64.wrap ((k : Int) - 1) = (k1 : Int) := by rw [IntKind.wrap_i64]; omega
          have bk : (k : Int) < (d.size : Int) := by omega
          have bk1 : (k1 : Int) < (d.size : Int) := by omega
          have ne1 : ¬ k = k1 := by omega
          have ne2 : ¬ k1 = k := by omega
          have hHj := holds_putRow enc w blk off d dk HH.out hK.2.2
          obtain ⟨vx, hvx⟩ : ∃ v, dk[k]! = v := ⟨_, rfl⟩
          obtain ⟨vy, hvy⟩ : ∃ v, dk[k1]! = v := ⟨_, rfl⟩
          obtain ⟨cx, fx⟩ := hHj k (by omega)
          obtain ⟨cy, fy⟩ := hHj k1 (by omega)
          rw [hvx] at cx
          rw [hvy] at cy
          clear hHj
          have cx' : ((putRow enc w blk off dk).drewN q2).cell? ⟨blk, off + k, none⟩ = some (enc vx) := cx
          have cy' : ((putRow enc w blk off dk).drewN q2).cell? ⟨blk, off + k1, none⟩ = some (enc vy) := cy
          have fx' : ((putRow enc w blk off dk).drewN q2).frozen? ⟨blk, off + k, none⟩ = false := fx
          have fy' : ((putRow enc w blk off dk).drewN q2).frozen? ⟨blk, off + k1, none⟩ = false := fy
          clear cx cy fx fy
          have HF : Asd (k1 = k - 1 ∧ j < k ∧ k < dk.size ∧ dk[k]! = vx ∧ dk[k1]! = vy) := ⟨by omega, hkt, by omega, hvx, hvy⟩
          clear hk1 hvx hvy hJ hK
          obtain ⟨wq, hwq⟩ : ∃ wq, wq = (putRow enc w blk off dk).drewN q2 := ⟨_, rfl⟩
          rw [← hwq] at cx' cy' fx' fy' ⊢
          have HW := Asd.mk hwq
          clear hwq
          go_wp2_with fail
          go_big_region
          all_goals go_wp2
          go_roundg (k1 - j)
          case measure => have := HF.out; omega
          case rel =>
            obtain ⟨e1, e2, e3, v1, v2⟩ := HF.out
            have hJ := HJ.out
            have hK := HK.out
            refine ⟨k1, q2 + 1, swp dk k k1, by first | rfl | (congr 1; unfold wrap64; omega), by omega, ⟨by rw [size_swp]; omega⟩, ⟨?_⟩, ?_⟩
            · rw [← HU.out, show k - j = (k1 - j) + 1 from by omega, e1]; rfl
            · rw [HW.out, ← v1, ← v2]
              exact swap_worldC enc w blk off dk q2 k k1 e3 (by omega)
        · have hktz : ¬ (j : Int) < (k : Int) := by omega
          clear hJ hK
          go_wp2
          refine bodyPost_ret (results_none rfl _ _ _) rfl ?_
          have hU := HU.out
          rw [show k - j = 0 from by omega] at hU
          exact ⟨rfl, dk, by rw [show dk = _ from hU]; exact HE.out.1, by rw [show dk = _ from hU]; exact HE.out.2, q2, rfl⟩
end Go.Proofs.YtbapkiclgkddcaaGreatDoor.Given
