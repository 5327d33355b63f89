/- strings.IndexAny(s, "/.") at every s: strings.IndexRune at a rune that is not ASCII finds nothing in "/.". -/
import Derived.Test.YtbapkiclgkddcaaGreatDoorShp
import Derived.WalkMore
import Derived.Laws.RangeAny
import Derived.Lib.OthersKept
import Derived.Shelf.Small.Utf8
import Derived.Shelf.Small.Strs
import Derived.Laws.Strings3
import Derived.Deep.LoopGhost
import Derived.Deep.QuietTactic
import Derived.BigQuiet
import Derived.WalkKit
import Derived.Below
import Derived.WalkSmall
import Derived.Outline
import Derived.Lib.DecodeN
namespace Go.Proofs.YtbapkiclgkddcaaGreatDoor.Given
open Go.RowKit Go.Proofs Go.Lib
set_option linter.unusedVariables false
/-- what string(r) is: at least two bytes, the second one beyond ASCII -/
theorem enc_two (r : Int) (h : 128 ≤ r) : ∃ a b t, Utf8.encode r = ⟨(a :: b :: t : List UInt8).toArray⟩ ∧ 128 ≤ b.toNat ∧ t.length ≤ 2 := by
  unfold Utf8.encode
  have hc : 128 ≤ (if Utf8.valid r = true then r.toNat else Utf8.runeError) := by
    split
    · omega
    · decide
  generalize (if Utf8.valid r = true then r.toNat else Utf8.runeError) = c at hc
  dsimp only
  rw [if_neg (by omega)]
  have e : ∀ k : Nat, 128 ≤ (UInt8.ofNat (128 + k % 64)).toNat := fun k => by
    rw [UInt8.toNat_ofNat']; omega
  split
  · exact ⟨_, _, [], rfl, e _, by decide⟩
  · split
    · exact ⟨_, _, [_], rfl, e _, by simp⟩
    · exact ⟨_, _, [_, _], rfl, e _, by simp⟩
theorem quiet_add_same {P : Program} {f : FuncId} {args : Array Value} {w : World} {a n : Nat} {v : Value}
    (h : Calls P f args (w.drewN (a + n)) fun e w' => e = .returned v ∧ w' = w.drewN (a + n)) :
    Calls P f args (w.drewN (a + n)) fun e w'' => e = .returned v ∧ ∃ m, w'' = w.drewN (a + m) :=
  h.mono fun _ _ ⟨he, hm⟩ => ⟨he, n, hm⟩
set_option maxHeartbeats 4000000 in
set_option maxRecDepth 100000 in
theorem rune_none (r : Int) (h : 128 ≤ r) (h1 : r ≤ 2147483647) (w : World) :
    Calls Tryz.prog 48 #[.string ⟨#[47, 46]⟩, .int .i32 r] w fun e w' => e = .returned (.int .i64 (-1)) ∧ Below w.heap.size w w' := by
  by_cases hv : r = 65533
  · subst hv
    obtain ⟨S, hS⟩ : ∃ S : ByteArray, (⟨#[47, 46]⟩ : ByteArray) = S := ⟨_, rfl⟩
    have hz : S.size = 2 := by rw [← hS]; rfl
    have h0 : ∀ h : 0 < S.size, S[0]'h = 47 := by subst hS; intro _; rfl
    have h1 : ∀ h : 1 < S.size, S[1]'h = 46 := by subst hS; intro _; rfl
    rw [hS]
    have H0 := Lib.hid h0
    have H1 := Lib.hid h1
    have HZ := Lib.hid hz
    clear hS h0 h1 hz
    go_enter Tryz.func48, Tryz.ntmps48
    go_wp2
    go_loopg [5, 6] 2 (fun g _ _ wx => ∃ i : Nat, i + g = 2 ∧ wx = w.iter S i)
    case atStart => exact ⟨0, by omega, rfl⟩
    case round =>
      obtain ⟨i, hig, rfl⟩ := hrel
      cases gk with
      | zero =>
        obtain rfl : i = 2 := by omega
        have hnx := run_next_end (P := Tryz.prog) w S 2
        have hz := HZ.out
        have hl : ¬ (2 < S.size) := by omega
        clear hz
        go_wp2
        go_ret
        exact ⟨rfl, (Below.refl _ _).alloc (Nat.le_refl _) _⟩
      | succ g =>
        have hz := HZ.out
        have hi : i < S.size := by omega
        obtain ⟨x, hx⟩ : ∃ x : UInt8, S[i]'hi = x := ⟨_, rfl⟩
        have hx128 : x.toNat < 128 := by
          have c : i = 0 ∨ i = 1 := by omega
          rcases c with rfl | rfl
          · rw [H0.out] at hx; rw [← hx]; decide
          · rw [H1.out] at hx; rw [← hx]; decide
        have hnx := fun ty => run_next_ascii (P := Tryz.prog) w S i ty hi (by rw [hx]; exact hx128)
        rw [hx] at hnx
        have hne : (((x.toNat : Int)) == 65533) = false := beq_eq_false_iff_ne.2 (by omega)
        clear hx hz
        go_wp2
        go_roundg g
        case measure => omega
        case rel => exact ⟨i + 1, by omega, rfl⟩
  · have hv2 : ((r : Int) == 65533) = false := beq_eq_false_iff_ne.2 hv
    clear hv
    cases hok : Lib.validRune r with
    | false =>
      have HK := Lib.hid hok
      clear hok
      go_enter Tryz.func48, Tryz.ntmps48
      go_wp2_with (go_at_call 73; refine (Any.utf8_ValidRune { Tryz.lays153 with } _ _).mono ?_; rintro e w' ⟨rfl, hw⟩; rw [hw, HK.out])
      go_ret
      exact ⟨rfl, Below.refl _ _⟩
    | true =>
      obtain ⟨a, b, t, hE, hb, ht⟩ := enc_two r h
      have HK := Lib.hid hok
      clear hok
      by_cases h0 : t.length = 0
      · obtain rfl : t = [] := List.length_eq_zero_iff.1 h0
        obtain ⟨R, hR⟩ : ∃ R : ByteArray, (⟨([a, b] : List UInt8).toArray⟩ : ByteArray) = R := ⟨_, rfl⟩
        have hz : R.size = 2 := by rw [← hR]; rfl
        have h1 : ∀ h : 1 < R.size, R[1]'h = b := by subst hR; intro _; rfl
        obtain ⟨S, hS⟩ : ∃ S : ByteArray, (⟨#[47, 46]⟩ : ByteArray) = S := ⟨_, rfl⟩
        have sz : S.size = 2 := by rw [← hS]; rfl
        have s1 : ∀ h : 1 < S.size, S[1]'h = 46 := by subst hS; intro _; rfl
        have sx : S.extract 2 S.size = ⟨#[]⟩ := by subst hS; rfl
        rw [hS]
        rw [hR] at hE
        clear hR hS h0
        have q1 : (1 : Int) < (R.size : Int) := by omega
        have q2 : (1 : Int) < (S.size : Int) := by omega
        have hbz : (((46 : UInt8).toNat : Int) != (b.toNat : Int)) = true := by rw [bne_iff_ne]; have : (46 : UInt8).toNat = 46 := rfl; omega
        go_enter Tryz.func48, Tryz.ntmps48
        go_wp2_with (go_at_call 73; refine (Any.utf8_ValidRune { Tryz.lays153 with } _ _).mono ?_; rintro e w' ⟨rfl, hw⟩; rw [hw, HK.out])
        go_step3
        go_wp2
        go_loopg [9] 0 (fun g i wx => i = .int .i64 1 ∧ wx = w)
        case atStart => exact ⟨rfl, rfl⟩
        case round =>
          obtain ⟨rfl, rfl⟩ := hrel
          go_wp2
          go_step3
          go_wp2
          go_quiet (fail)
          go_wp2
          have q3 : IntKind.i64.wrap 2 = 2 := by rw [IntKind.wrap_i64]; rfl
          have q4 : (2 : Int) ≤ (S.size : Int) := by omega
          have hib : Lib.indexByte (⟨#[]⟩ : ByteArray).data.toList b = -1 := rfl
          go_quiet ((go_at_call 72; exact quiet_add_same (Any.strings_IndexByte { Tryz.lays153 with } _ _ _)))
          go_wp2
          (try rw [Exit.noGoto_ret])
          go_ret
          exact ⟨rfl, by go_simp; exact Go.below_drewN (Below.refl _ _) _⟩
      · have q : 0 < t.length := by omega
        clear h0
        have q1 : ¬ ((t.length : Int) + 1 < 2) := by omega
        go_enter Tryz.func48, Tryz.ntmps48
        go_wp2_with (go_at_call 73; refine (Any.utf8_ValidRune { Tryz.lays153 with } _ _).mono ?_; rintro e w' ⟨rfl, hw⟩; rw [hw, HK.out])
        go_step3
        go_wp2
        go_loopg [9] 0 (fun g i wx => i = .int .i64 (t.length + 1) ∧ wx = w)
        case atStart => exact ⟨rfl, rfl⟩
        case round =>
          obtain ⟨rfl, rfl⟩ := hrel
          go_wp2
          try rw [Exit.noGoto_ret]
          go_ret
          exact ⟨rfl, Below.refl _ _⟩
/-- what a step of 'for i, c := range s' passes over beyond ASCII is beyond ASCII -/
theorem decode_span (s : ByteArray) (i : Nat) (h : i < s.size) (hb : 128 ≤ (s.get! i).toNat) : 1 ≤ (Utf8.decode s i).2 ∧ i + (Utf8.decode s i).2 ≤ s.size ∧ ∀ j, i ≤ j → j < i + (Utf8.decode s i).2 → 128 ≤ (s.get! j).toNat := by
  rw [decode_at]
  unfold decodeN
  rw [if_neg (by omega)]
  have one : ∀ j, i ≤ j → j < i + 1 → 128 ≤ (s.get! j).toNat := fun j a b => by
    obtain rfl : j = i := by omega
    exact hb
  split
  · rename_i c
    split
    · refine ⟨by simp, by show i + 2 ≤ _; omega, fun j a b => ?_⟩
      have : j = i ∨ j = i + 1 := by simp only at b; omega
      rcases this with rfl | rfl <;> omega
    · exact ⟨by decide, by show i + 1 ≤ _; omega, one⟩
  · split
    · rename_i c
      split
      · refine ⟨by simp, by show i + 3 ≤ _; omega, fun j a b => ?_⟩
        have : j = i ∨ j = i + 1 ∨ j = i + 2 := by simp only at b; omega
        rcases this with rfl | rfl | rfl <;> omega
      · exact ⟨by decide, by show i + 1 ≤ _; omega, one⟩
    · split
      · rename_i c
        split
        · refine ⟨by simp, by show i + 4 ≤ _; omega, fun j a b => ?_⟩
          have : j = i ∨ j = i + 1 ∨ j = i + 2 ∨ j = i + 3 := by simp only at b; omega
          rcases this with rfl | rfl | rfl | rfl <;> omega
        · exact ⟨by decide, by show i + 1 ≤ _; omega, one⟩
      · exact ⟨by decide, by show i + 1 ≤ _; omega, one⟩
theorem get_bang (s : ByteArray) (i : Nat) (h : i < s.size) : s.get! i = s[i]'h := by
  simp [ByteArray.get!, getElem!_pos, h]
  rfl
theorem noAny_span {s : ByteArray} {i n : Nat} (h : NoAny s.data.toList [47, 46] i) (hz : i + n ≤ s.size) (hs : ∀ j, i ≤ j → j < i + n → 128 ≤ (s.get! j).toNat) : NoAny s.data.toList [47, 46] (i + n) := by
  intro j b hj hb
  by_cases c : j < i
  · exact h j b c hb
  · have h1 := hs j (by omega) hj
    have h2 : j < s.size := by omega
    rw [get_bang s j h2] at h1
    have h3 := Lib.data_getElem? s j h2
    rw [h3] at hb
    cases hb
    have e1 : s[j] ≠ 47 := fun e => by rw [e] at h1; exact absurd h1 (by decide)
    have e2 : s[j] ≠ 46 := fun e => by rw [e] at h1; exact absurd h1 (by decide)
    simp [e1, e2]
set_option maxHeartbeats 8000000 in
set_option maxRecDepth 1000000 in
/-- s of at most 8 bytes, whatever they are. -/
theorem idx_short (s : ByteArray) (w : World) (h8 : s.size ≤ 8) :
    Calls Tryz.prog 26 #[.string s, .string ⟨#[47, 46]⟩] w fun e w' => e = .returned (.int .i64 (Lib.indexAny s.data.toList [47, 46])) ∧ Below w.heap.size w w' := by
  have h8z : decide ((8 : Int) < (s.size : Int)) = false := decide_eq_false (by omega)
  have hch : True := trivial
  go_enter Tryz.func26, Tryz.ntmps26
  go_wp2_with (go_at_call 49; refine (Any.strings_shouldUseASCIISet { Tryz.lays153 with } _ _).mono ?_; rintro e w' ⟨rfl, hw⟩; rw [hw, h8z])
  have HC := Lib.hid hch
  clear hch
  obtain ⟨B, hB⟩ : ∃ B, B = w.heap.size := ⟨_, rfl⟩
  have KB := Lib.hid hB
  rw [← hB]
  go_loopg [9, 10] s.size (fun g _ _ wx => ∃ i : Nat, i ≤ s.size ∧ s.size ≤ i + g ∧ wx.heap[B]? = some (.stringIter s i) ∧ Below B w wx ∧ NoAny s.data.toList [47, 46] i)
  case atStart => exact ⟨0, by omega, by omega, by rw [hB]; exact World.iter_heap _ _ _, (Below.refl _ _).alloc (by omega) _, NoAny.zero _ _⟩
  case round =>
    obtain ⟨i, hi1, hig, hit, hbl, hno⟩ := hrel
    have HN := Lib.hid hno
    have HI := Lib.hid hit
    have HB := Lib.hid hbl
    clear hno hit hbl hB
    by_cases hi : i < s.size
    · obtain ⟨x, hx⟩ : ∃ x : UInt8, s[i]'hi = x := ⟨_, rfl⟩
      have hxl : s.data.toList[i]? = some x := by rw [← hx]; exact Lib.data_getElem? s i hi
      cases gk with
      | zero => omega
      | succ g =>
      by_cases hx128 : x.toNat < 128
      · have hnx := fun ty => run_next_ascii_at (P := Tryz.prog) wr B s i ty HI.out hi (by rw [hx]; exact hx128)
        rw [hx] at hnx
        have Hx := Lib.hid hxl
        clear hxl hx
        have hback : ((x.toNat : Int)).toNat.toUInt8 = x := by simp
        have hcon := Lib.contains_iff_indexByte [47, 46] x
        cases hin : ([47, 46] : List UInt8).contains x
        · have hlt : ¬ ((0 : Int) ≤ Lib.indexByte [47, 46] x) := of_decide_eq_false (by rw [← hcon, hin])
          have HJ := Lib.hid hin
          clear hcon hin
          go_wp2_with (go_at_call 48; refine (Any.strings_IndexRune_ascii { Tryz.lays153 with } _ _ _ (by omega) (by omega)).mono ?_; rintro e w' ⟨rfl, hw⟩; rw [hw, hback]; dsimp only)
          go_roundg g
          case measure => omega
          case rel => exact ⟨i + 1, by omega, by omega, iterAt_heap _ _ _ _ _ HI.out, below_iterAt HB.out (Nat.le_refl _) _ _, HN.out.succ Hx.out HJ.out⟩
        · have hge : (0 : Int) ≤ Lib.indexByte [47, 46] x := of_decide_eq_true (by rw [← hcon, hin])
          have HJ := Lib.hid hin
          clear hcon hin
          go_wp2_with (go_at_call 48; refine (Any.strings_IndexRune_ascii { Tryz.lays153 with } _ _ _ (by omega) (by omega)).mono ?_; rintro e w' ⟨rfl, hw⟩; rw [hw, hback]; dsimp only)
          go_ret
          rw [← KB.out]
          exact ⟨by rw [Lib.indexAny_hit HN.out Hx.out HJ.out]; rfl, below_iterAt HB.out (Nat.le_refl _) _ _⟩
      · have hnx := fun ty => run_next_any_at (P := Tryz.prog) wr B s i ty HI.out hi
        obtain ⟨sp1, sp2, sp3⟩ := decode_span s i hi (by rw [get_bang s i hi, hx]; omega)
        have hd1 := (decode_high s i hi (by rw [hx]; omega)).1
        have hd2 := decode_le s i
        have SP := Lib.hid sp3
        clear hxl hx sp3
        obtain ⟨c, n, hcn⟩ : ∃ c n, Utf8.decode s i = (c, n) := ⟨_, _, rfl⟩
        rw [hcn] at hnx hd1 hd2 sp1 sp2 SP
        simp only at hnx hd1 hd2 sp1 sp2
        clear hcn
        have CR := Lib.hid (fun W => rune_none (c : Int) (by omega) (by omega) W)
        go_wp2_with (go_at_call 48; refine (CR.out _).mono ?_; rintro e w' ⟨rfl, hb⟩)
        go_roundg g
        case measure => omega
        case rel =>
          rw [iterAt_size] at hb
          have hlt : B < wr.heap.size := (Array.getElem?_eq_some_iff.1 HI.out).1
          exact ⟨i + n, by omega, by omega, (hb.block B hlt).trans (iterAt_heap _ _ _ _ _ HI.out), (below_iterAt HB.out (Nat.le_refl _) _ _).trans (hb.mono (by omega)), noAny_span HN.out sp2 SP.out⟩
    · obtain rfl : i = s.size := by omega
      have hnx := fun ty => run_next_end_at (P := Tryz.prog) wr B s s.size ty HI.out hi
      go_wp2
      go_ret
      rw [← KB.out]
      exact ⟨by rw [Lib.indexAny_none (by rw [← Lib.size_eq]; exact HN.out)]; rfl, HB.out⟩
/-- strings.IndexAny(s, "/.") at every s -/
theorem idx_any (s : ByteArray) (w : World) (hs : s.size < 4294967281) :
    Calls Tryz.prog 26 #[.string s, .string ⟨#[47, 46]⟩] w fun e w' => e = .returned (.int .i64 (Lib.indexAny s.data.toList [47, 46])) ∧ Below w.heap.size w w' := by
  by_cases h8 : s.size ≤ 8
  · exact idx_short s w h8
  · refine (Any.strings_IndexAny_long Tryz.lays153 (zero_of_info (v := .agg (Array.replicate 256 (.bool false))) (n := 256) (by kernel_rfl)).1 (zero_of_info (v := .agg (Array.replicate 256 (.bool false))) (n := 256) (by kernel_rfl)).2 s ⟨#[47, 46]⟩ w (by decide) (by omega) hs (by decide) ?_).mono fun e w' ⟨h1, h2⟩ => ⟨h1, ?_⟩
    · intro j b hb
      have : j = 0 ∨ j = 1 ∨ 2 ≤ j := by omega
      rcases this with rfl | rfl | h
      · cases hb; decide
      · cases hb; decide
      · rw [List.getElem?_eq_none (by exact h)] at hb; cases hb
    · rw [h2]
      exact ((Below.refl _ _).alloc (Nat.le_refl _) _).alloc (by simp) _
end Go.Proofs.YtbapkiclgkddcaaGreatDoor.Given
