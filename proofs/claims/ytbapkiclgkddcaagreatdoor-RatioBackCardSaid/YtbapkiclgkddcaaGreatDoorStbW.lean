/- swapRangeCmpFunc and rotateCmpFunc of package slices: what they leave in the row. -/
import Derived.Test.YtbapkiclgkddcaaGreatDoorStb
import Derived.Test.YtbapkiclgkddcaaGreatDoorSrt
namespace Go.Proofs.YtbapkiclgkddcaaGreatDoor.Given
open Go.RowKit Go.Lib Go.Sort Go.Proofs
variable {α : Type} [Inhabited α]
set_option linter.unusedVariables false

set_option maxHeartbeats 4000000 in
set_option maxRecDepth 1000000 in
theorem swapRange (enc : α → Value) (hO : OneCell enc) (fv : Value) (blk off cap x y n : Nat) (d : Array α) (w : World)
    (hH : Holds enc w blk off d) (hxy : x + n ≤ y) (hy : y + n ≤ d.size) (hsz : d.size < 4611686018427387904) :
    Calls Tryz.prog 112 #[.slice (some ⟨blk, off, none⟩) d.size cap, .int .i64 x, .int .i64 y, .int .i64 n, fv] w fun e w' =>
      e = .returned (.tuple #[]) ∧ ∃ d', SwR d d' x y n ∧ (∀ A B, A ≤ x → y + n ≤ B → B ≤ d.size → PermIn A B d d') ∧ ∃ q, w' = (putRow enc w blk off d').drewN q := by
  have hcl0 := hO.cells
  simp only [Value.cells] at hcl0
  have hst := hO.store Tryz.prog
  have HST : Hid (w = (putRow enc w blk off d).drewN 0) := (putRow_self enc w blk off d hH).symm
  have HH : Hid (Holds enc w blk off d) := hH
  have HXY := Asd.mk hxy
  have HY := Asd.mk hy
  have HSZ := Asd.mk hsz
  clear hH hxy hy hsz
  go_enter Tryz.func112, Tryz.ntmps112
  go_wp2
  go_loopg [10] n (fun g1 vi wr => ∃ (i q : Nat) (dk : Array α), vi = .int .i64 i ∧ i ≤ n ∧ n - i ≤ g1 ∧ Asd (SwR d dk x y i) ∧ Asd (∀ A B, A ≤ x → y + n ≤ B → B ≤ d.size → PermIn A B d dk) ∧ wr = (putRow enc w blk off dk).drewN q)
  case atStart => exact ⟨0, 0, d, by go_num, by omega, by omega, ⟨SwR.zero d x y⟩, ⟨fun A B _ _ _ => permIn_refl _ _ _⟩, HST.out⟩
  case round =>
    obtain ⟨i, q, dk, rfl, hin, hg1, HR, HP, rfl⟩ := hrel
    by_cases hlt : i < n
    · have hltz : (i : Int) < (n : Int) := by omega
      have hsk : dk.size = d.size := HR.out.1
      have hxy := HXY.out
      have hy := HY.out
      have hsz := HSZ.out
      obtain ⟨xi, hxi⟩ : ∃ xi, xi = x + i := ⟨_, rfl⟩
      obtain ⟨yi, hyi⟩ : ∃ yi, yi = y + i := ⟨_, rfl⟩
      have wx : IntKind.i64.wrap ((x : Int) + (i : Int)) = (xi : Int) := by rw [IntKind.wrap_i64]; omega
      have wy : IntKind.i64.wrap ((y : Int) + (i : Int)) = (yi : Int) := by rw [IntKind.wrap_i64]; omega
      have bx : (xi : Int) < (d.size : Int) := by omega
      have by_ : (yi : Int) < (d.size : Int) := by omega
      have ne1 : ¬ xi = yi := by omega
      have ne2 : ¬ yi = xi := by omega
      have hHj := holds_putRow enc w blk off d dk HH.out hsk
      obtain ⟨vx, hvx⟩ : ∃ v, dk[xi]! = v := ⟨_, rfl⟩
      obtain ⟨vy, hvy⟩ : ∃ v, dk[yi]! = v := ⟨_, rfl⟩
      obtain ⟨cx, fx⟩ := hHj xi (by omega)
      obtain ⟨cy, fy⟩ := hHj yi (by omega)
      rw [hvx] at cx
      rw [hvy] at cy
      clear hHj
      have cx' : ((putRow enc w blk off dk).drewN q).cell? ⟨blk, off + xi, none⟩ = some (enc vx) := cx
      have cy' : ((putRow enc w blk off dk).drewN q).cell? ⟨blk, off + yi, none⟩ = some (enc vy) := cy
      have fx' : ((putRow enc w blk off dk).drewN q).frozen? ⟨blk, off + xi, none⟩ = false := fx
      have fy' : ((putRow enc w blk off dk).drewN q).frozen? ⟨blk, off + yi, none⟩ = false := fy
      clear cx cy fx fy
      have HF : Asd (xi = x + i ∧ yi = y + i ∧ i < n ∧ xi < dk.size ∧ yi < dk.size) := ⟨by omega⟩
      have HV : Asd (dk[xi]! = vx ∧ dk[yi]! = vy) := ⟨hvx, hvy⟩
      clear hxi hyi hvx hvy hsk hxy hy hsz
      obtain ⟨wq, hwq⟩ : ∃ wq, wq = (putRow enc w blk off dk).drewN q := ⟨_, rfl⟩
      rw [← hwq] at cx' cy' fx' fy' ⊢
      have HW := Asd.mk hwq
      clear hwq
      go_wp2_with fail
      go_big_region
      all_goals go_wp2
      go_roundg (n - (i + 1))
      case measure => omega
      case rel =>
        obtain ⟨e1, e2, e3, e4, e5⟩ := HF.out
        obtain ⟨v1, v2⟩ := HV.out
        have h1 := HR.out
        have h2 := HP.out
        have h3 := HXY.out
        have h4 := HY.out
        have h5 := HSZ.out
        refine ⟨i + 1, q + 1, swp dk xi yi, by congr 1; unfold wrap64; omega, by omega, by omega, ⟨?_⟩, ⟨fun A B a1 a2 a3 => ?_⟩, ?_⟩
        · rw [e1, e2]; exact SwR.step h1 (by omega) (by omega)
        · exact permIn_trans _ _ _ _ _ (h2 A B a1 a2 a3) (swp_permIn dk A B xi yi (by omega) (by omega) (by omega) (by omega) (by rw [h1.1]; exact a3))
        · rw [HW.out, ← v1, ← v2]
          exact swap_worldC enc w blk off dk q xi yi e4 e5
    · have hltz : ¬ (i : Int) < (n : Int) := by omega
      go_wp2
      go_end0
      obtain rfl : i = n := by omega
      exact ⟨rfl, dk, HR.out, HP.out, q, rfl⟩
set_option maxHeartbeats 4000000 in
set_option maxRecDepth 1000000 in
theorem rotate (enc : α → Value) (hO : OneCell enc) (fv : Value) (blk off cap a m b : Nat) (d : Array α) (w : World)
    (hH : Holds enc w blk off d) (ham : a < m) (hmb : m < b) (hb : b ≤ d.size) (hsz : d.size < 4611686018427387904) :
    Calls Tryz.prog 109 #[.slice (some ⟨blk, off, none⟩) d.size cap, .int .i64 a, .int .i64 m, .int .i64 b, fv] w fun e w' =>
      e = .returned (.tuple #[]) ∧ ∃ d', d'.size = d.size ∧ (∀ k, d'[k]! = rotAt d a m b k) ∧ (∀ A B, A ≤ a → b ≤ B → B ≤ d.size → PermIn A B d d') ∧ ∃ q, w' = (putRow enc w blk off d').drewN q := by
  have HST : Hid (w = (putRow enc w blk off d).drewN 0) := (putRow_self enc w blk off d hH).symm
  have HH : Hid (Holds enc w blk off d) := hH
  have HB := Asd.mk (show a < m ∧ m < b ∧ b ≤ d.size ∧ d.size < 4611686018427387904 from ⟨ham, hmb, hb, hsz⟩)
  have HS : Asd (∀ (x y n : Nat) (dk : Array α) (q : Nat), dk.size = d.size → x + n ≤ y → y + n ≤ d.size → Calls Tryz.prog 112 #[.slice (some ⟨blk, off, none⟩) d.size cap, .int .i64 x, .int .i64 y, .int .i64 n, fv] ((putRow enc w blk off dk).drewN q) fun e w' =>
      e = .returned (.tuple #[]) ∧ ∃ d', SwR dk d' x y n ∧ (∀ A B, A ≤ x → y + n ≤ B → B ≤ d.size → PermIn A B dk d') ∧ ∃ q, w' = (putRow enc w blk off d').drewN q) := ⟨fun x y n dk q h1 h2 h3 => by
    have h := swapRange enc hO fv blk off cap x y n dk ((putRow enc w blk off dk).drewN q) (holds_putRow enc w blk off d dk hH h1) h2 (by omega) (by omega)
    rw [h1] at h
    refine h.mono ?_
    rintro e w' ⟨he, d', s1, s2, q2, hw⟩
    refine ⟨he, d', s1, s2, q + q2, ?_⟩
    rw [hw]
    show ((putRow enc (putRow enc w blk off dk) blk off d').drewN q).drewN q2 = _
    rw [putRow_putRow enc w blk off dk d' s1.1, World.drewN_drewN]⟩
  have w1 : IntKind.i64.wrap ((m : Int) - (a : Int)) = ((m - a : Nat) : Int) := by rw [IntKind.wrap_i64]; omega
  have w2 : IntKind.i64.wrap ((b : Int) - (m : Int)) = ((b - m : Nat) : Int) := by rw [IntKind.wrap_i64]; omega
  clear hH ham hmb hb hsz
  go_enter Tryz.func109, Tryz.ntmps109
  go_wp2
  go_loopg [10, 11] (m - a + (b - m)) (fun g1 vi vj wr => ∃ (i j q : Nat) (dk : Array α), vi = .int .i64 i ∧ vj = .int .i64 j ∧ i + j ≤ g1 ∧ Asd (0 < i ∧ 0 < j ∧ i ≤ m - a ∧ j ≤ b - m ∧ dk.size = d.size) ∧ Asd (∀ k, rotAt dk (m - i) m (m + j) k = rotAt d a m b k) ∧ Asd (∀ A B, A ≤ a → b ≤ B → B ≤ d.size → PermIn A B d dk) ∧ wr = (putRow enc w blk off dk).drewN q)
  case atStart =>
    have hB := HB.out
    exact ⟨m - a, b - m, 0, d, by go_num, by go_num, by omega, ⟨by omega⟩, ⟨fun k => by rw [show m - (m - a) = a from by omega, show m + (b - m) = b from by omega]⟩, ⟨fun A B _ _ _ => permIn_refl _ _ _⟩, HST.out⟩
  case round =>
    obtain ⟨i, j, q, dk, rfl, rfl, hg1, HI, HT, HP, rfl⟩ := hrel
    have hB := HB.out
    have hI := HI.out
    have u1 : IntKind.i64.wrap ((m : Int) - (i : Int)) = ((m - i : Nat) : Int) := by rw [IntKind.wrap_i64]; omega
    by_cases hne : i = j
    · subst hne
      have hnez : ¬ ((i : Int) ≠ (i : Int)) := by omega
      clear hB hI
      go_wp2_with (go_at_call 112; refine (HS.out (m - i) m i dk q (by have := HI.out; omega) (by have := HI.out; omega) (by have := HI.out; have := HB.out; omega)).mono ?_; rintro e w' ⟨rfl, d', s1, s2, q2, rfl⟩)
      go_end0
      have hB := HB.out
      have hI := HI.out
      refine ⟨rfl, d', by rw [s1.1]; exact hI.2.2.2.2, fun k => ?_, fun A B a1 a2 a3 => permIn_trans _ _ _ _ _ (HP.out A B a1 a2 a3) (s2 A B (by omega) (by omega) a3), q2, rfl⟩
      rw [rot_eq (by omega) s1 k]
      exact HT.out k
    · have hnez : ((i : Int) == (j : Int)) = false := beq_eq_false_iff_ne.mpr (by omega)
      have hnez2 : ¬ ((i : Int) = (j : Int)) := by omega
      by_cases hgt : j < i
      · have hgz : (j : Int) < (i : Int) := by omega
        have u2 : IntKind.i64.wrap ((i : Int) - (j : Int)) = ((i - j : Nat) : Int) := by rw [IntKind.wrap_i64]; omega
        clear hB hI
        go_wp2_with (go_at_call 112; refine (HS.out (m - i) m j dk q (by have := HI.out; omega) (by have := HI.out; omega) (by have := HI.out; have := HB.out; omega)).mono ?_; rintro e w' ⟨rfl, d', s1, s2, q2, rfl⟩)
        go_roundg (i - j + j)
        case measure => have := HI.out; omega
        case rel =>
          have hB := HB.out
          have hI := HI.out
          refine ⟨i - j, j, q2, d', by first | rfl | go_num, by first | rfl | go_num, by omega, ⟨by have := s1.1; omega⟩, ⟨fun k => ?_⟩, ⟨fun A B a1 a2 a3 => permIn_trans _ _ _ _ _ (HP.out A B a1 a2 a3) (s2 A B (by omega) (by omega) a3)⟩, rfl⟩
          rw [rot_gt hgt (by omega) (by omega) s1 k]
          exact HT.out k
      · have hgz : ¬ (j : Int) < (i : Int) := by omega
        obtain ⟨mj, hmj⟩ : ∃ mj, mj = m + j := ⟨_, rfl⟩
        have u2 : IntKind.i64.wrap ((m : Int) + (j : Int)) = (mj : Int) := by rw [IntKind.wrap_i64]; omega
        have u3 : IntKind.i64.wrap ((mj : Int) - (i : Int)) = ((mj - i : Nat) : Int) := by rw [IntKind.wrap_i64]; omega
        have HM := Asd.mk hmj
        clear hmj
        have u4 : IntKind.i64.wrap ((j : Int) - (i : Int)) = ((j - i : Nat) : Int) := by rw [IntKind.wrap_i64]; omega
        clear hB hI
        go_wp2_with (go_at_call 112; refine (HS.out (m - i) (mj - i) i dk q (by have := HI.out; omega) (by have := HI.out; have := HM.out; omega) (by have := HI.out; have := HB.out; have := HM.out; omega)).mono ?_; rintro e w' ⟨rfl, d', s1, s2, q2, rfl⟩)
        go_roundg (i + (j - i))
        case measure => have := HI.out; omega
        case rel =>
          have hB := HB.out
          have hI := HI.out
          refine ⟨i, j - i, q2, d', by first | rfl | go_num, by first | rfl | go_num, by omega, ⟨by have := s1.1; omega⟩, ⟨fun k => ?_⟩, ⟨fun A B a1 a2 a3 => permIn_trans _ _ _ _ _ (HP.out A B a1 a2 a3) (s2 A B (by omega) (by have := HM.out; omega) a3)⟩, rfl⟩
          rw [HM.out] at s1
          rw [rot_lt (by omega) (by omega) (by omega) s1 k]
          exact HT.out k
end Go.Proofs.YtbapkiclgkddcaaGreatDoor.Given
