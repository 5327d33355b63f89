/- stableCmpFunc and SortStableFunc of package slices: the row behind the call is what insertion sort makes of it, whatever its length. -/
import Derived.Test.YtbapkiclgkddcaaGreatDoorStbN
namespace Go.Proofs.YtbapkiclgkddcaaGreatDoor.Given
open Go.RowKit Go.Lib Go.Sort Go.Proofs
variable {α : Type} [Inhabited α]
set_option linter.unusedVariables false
theorem wmul2 {s z : Nat} (h : z = 2 * s) (hz : z < 9223372036854775808) : IntKind.i64.wrap (2 * (s : Int)) = (z : Int) := by rw [IntKind.wrap_i64]; omega
theorem wmul2' {s z : Nat} (h : z = 2 * s) (hz : z < 9223372036854775808) : IntKind.i64.wrap ((s : Int) * 2) = (z : Int) := by rw [IntKind.wrap_i64]; omega
theorem dvd_le {c x a : Nat} (hx : c ∣ x) (ha : c ∣ a) (h : x < a + c) : x ≤ a := by
  obtain ⟨u, rfl⟩ := hx
  obtain ⟨v, rfl⟩ := ha
  have : u < v + 1 := by
    rcases Nat.lt_or_ge u (v + 1) with h2 | h2
    · exact h2
    · have := Nat.mul_le_mul_left c h2
      rw [Nat.mul_add, Nat.mul_one] at this
      omega
  exact Nat.mul_le_mul_left c (by omega)
theorem size_outer' (lt : α → α → Bool) (a b : Nat) : ∀ (k i : Nat) (d : Array α), k = b - i → (insOuter lt a b i d).size = d.size
  | 0, i, d, h => by rw [out_stop _ _ _ _ _ (by omega)]
  | k + 1, i, d, h => by rw [out_go _ _ _ _ _ (by omega), size_outer' lt a b k (i + 1) _ (by omega), (inner_other a i d).1]
/-- a block is sorted and holds the keys of its own places -/
def Blk (lt : α → α → Bool) (key : α → Nat) (x y z : Nat) (d : Array α) : Prop := SortedIn lt x y d ∧ ∀ p, x ≤ p → p < y → x ≤ key d[p]! ∧ key d[p]! < z
theorem Blk.out {lt : α → α → Bool} {key : α → Nat} {x y z a b : Nat} {d d' : Array α} (h : Blk lt key x y z d) (hp : PermIn a b d d') (ho : y ≤ a ∨ b ≤ x) : Blk lt key x y z d' := by
  refine ⟨fun i j c1 c2 c3 => ?_, fun p c1 c2 => ?_⟩
  · rw [hp.2.1 j (by omega), hp.2.1 i (by omega)]; exact h.1 i j c1 c2 c3
  · rw [hp.2.1 p (by omega)]; exact h.2 p c1 c2
/-- behind the first loop's rounds -/
def Inv1 (lt : α → α → Bool) (key : α → Nat) (n a : Nat) (d dk : Array α) : Prop := PermIn 0 n d dk ∧ 20 ∣ a ∧ a ≤ n ∧ (∀ x, 20 ∣ x → x < a → Blk lt key x (x + 20) (x + 20) dk) ∧ ∀ p, a ≤ p → p < n → key dk[p]! = p
/-- all blocks of s places are sorted -/
def Inv2 (lt : α → α → Bool) (key : α → Nat) (n s : Nat) (d dk : Array α) : Prop := PermIn 0 n d dk ∧ ∀ x, s ∣ x → x < n → Blk lt key x (min (x + s) n) (x + s) dk
/-- behind rounds of the merging loop -/
def Inv3 (lt : α → α → Bool) (key : α → Nat) (n s a : Nat) (d dk : Array α) : Prop := PermIn 0 n d dk ∧ 2 * s ∣ a ∧ a ≤ n ∧ (∀ x, 2 * s ∣ x → x < a → Blk lt key x (x + 2 * s) (x + 2 * s) dk) ∧ ∀ x, s ∣ x → a ≤ x → x < n → Blk lt key x (min (x + s) n) (x + s) dk
theorem Inv1.keys {lt : α → α → Bool} {key : α → Nat} {n a b : Nat} {d dk : Array α} (h : Inv1 lt key n a d dk) (hb : b ≤ n) : ∀ p q, a ≤ p → p < q → q < b → key dk[p]! < key dk[q]! := fun p q c1 c2 c3 => by
  rw [h.2.2.2.2 p c1 (by omega), h.2.2.2.2 q (by omega) (by omega)]; exact c2
/-- one block sorted -/
theorem Inv1.blk {lt : α → α → Bool} {key : α → Nat} (hS : SWO lt) {n a b : Nat} {d dk : Array α} (h : Inv1 (lt2 lt key) key n a d dk) (hn : n = d.size) (hab : a ≤ b) (hb : b ≤ n) :
    PermIn a b dk (insertionSort lt dk a b) ∧ Blk (lt2 lt key) key a b b (insertionSort lt dk a b) := by
  have hz : dk.size = d.size := h.1.1
  have e := ins_eq (lt := lt) (key := key) dk a b (by omega) (h.keys hb)
  obtain ⟨h1, h2⟩ := insertionSort_holds (lt2_swo hS key) dk a b hab (by omega)
  rw [e] at h1 h2
  exact ⟨h1, h2, pkeys h1 (by omega) (fun p c1 c2 => by rw [h.2.2.2.2 p c1 (by omega)]; exact ⟨c1, c2⟩)⟩
theorem Inv1.step {lt : α → α → Bool} {key : α → Nat} (hS : SWO lt) {n a : Nat} {d dk : Array α} (h : Inv1 (lt2 lt key) key n a d dk) (hn : n = d.size) (hb : a + 20 ≤ n) :
    Inv1 (lt2 lt key) key n (a + 20) d (insertionSort lt dk a (a + 20)) := by
  obtain ⟨h1, h2⟩ := h.blk hS hn (show a ≤ a + 20 by omega) hb
  refine ⟨permIn_trans _ _ _ _ _ h.1 (permIn_mono _ _ a (a + 20) 0 n (Nat.zero_le _) hb (by rw [h.1.1]; omega) h1), Nat.dvd_add h.2.1 (Nat.dvd_refl _), hb, fun x hx hxa => ?_, fun p c1 c2 => ?_⟩
  · have := dvd_le hx h.2.1 hxa
    rcases Nat.eq_or_lt_of_le this with rfl | h3
    · exact h2
    · have h4 := dvd_le (c := 20) (x := x + 20) (a := a) (Nat.dvd_add hx (Nat.dvd_refl _)) h.2.1 (by omega)
      exact (h.2.2.2.1 x hx h3).out h1 (Or.inl h4)
  · rw [h1.2.1 p (Or.inr c1)]; exact h.2.2.2.2 p (by omega) c2
theorem Inv1.last {lt : α → α → Bool} {key : α → Nat} (hS : SWO lt) {n a : Nat} {d dk : Array α} (h : Inv1 (lt2 lt key) key n a d dk) (hn : n = d.size) (hb : n < a + 20) :
    Inv2 (lt2 lt key) key n 20 d (insertionSort lt dk a n) := by
  obtain ⟨h1, h2⟩ := h.blk hS hn h.2.2.1 (Nat.le_refl _)
  refine ⟨permIn_trans _ _ _ _ _ h.1 (permIn_mono _ _ a n 0 n (Nat.zero_le _) (Nat.le_refl _) (by rw [h.1.1]; omega) h1), fun x hx hxn => ?_⟩
  have := dvd_le hx h.2.1 (by omega)
  rcases Nat.eq_or_lt_of_le this with rfl | h3
  · rw [Nat.min_eq_right (by omega)]
    exact ⟨h2.1, fun p c1 c2 => by have := h2.2 p c1 c2; omega⟩
  · have h4 := dvd_le (c := 20) (x := x + 20) (a := a) (Nat.dvd_add hx (Nat.dvd_refl _)) h.2.1 (by omega)
    have := h.2.2.1
    rw [Nat.min_eq_left (by omega)]
    exact (h.2.2.2.1 x hx h3).out h1 (Or.inl h4)
theorem Inv3.start {lt : α → α → Bool} {key : α → Nat} {n s : Nat} {d dk : Array α} (h : Inv2 lt key n s d dk) : Inv3 lt key n s 0 d dk :=
  ⟨h.1, ⟨0, rfl⟩, Nat.zero_le _, fun x _ c => absurd c (Nat.not_lt_zero _), fun x h1 _ h3 => h.2 x h1 h3⟩
theorem half_dvd {s a : Nat} (h : 2 * s ∣ a) : s ∣ a := Nat.dvd_trans ⟨2, Nat.mul_comm _ _⟩ h
/-- two neighbouring blocks are ready to be merged -/
theorem Inv3.runs {lt : α → α → Bool} {key : α → Nat} {n s a b : Nat} {d dk : Array α} (h : Inv3 lt key n s a d dk) (hs : 0 < s) (hm : a + s < n) (hb : b = min (a + 2 * s) n) : Runs lt key a (a + s) b dk := by
  have hda := half_dvd h.2.1
  have h1 := h.2.2.2.2 a hda (Nat.le_refl _) (by omega)
  have h2 := h.2.2.2.2 (a + s) (Nat.dvd_add hda (Nat.dvd_refl _)) (by omega) hm
  rw [Nat.min_eq_left (by omega)] at h1
  rw [show min (a + s + s) n = b from by rw [hb]; congr 1; omega] at h2
  exact ⟨h1.1, h2.1, fun p q c1 c2 c3 c4 => by have := h1.2 p c1 c2; have := h2.2 q c3 c4; omega⟩
theorem Inv3.step {lt : α → α → Bool} {key : α → Nat} {n s a : Nat} {d dk d' : Array α} (h : Inv3 lt key n s a d dk) (hn : n = d.size) (hs : 0 < s) (hb : a + 2 * s ≤ n) (hp : PermIn a (a + 2 * s) dk d') (hsd : SortedIn lt a (a + 2 * s) d') : Inv3 lt key n s (a + 2 * s) d d' := by
  have hz : dk.size = d.size := h.1.1
  have hda := half_dvd h.2.1
  have h1 := h.2.2.2.2 a hda (Nat.le_refl _) (by omega)
  have h2 := h.2.2.2.2 (a + s) (Nat.dvd_add hda (Nat.dvd_refl _)) (by omega) (by omega)
  rw [Nat.min_eq_left (by omega)] at h1 h2
  refine ⟨permIn_trans _ _ _ _ _ h.1 (permIn_mono _ _ a (a + 2 * s) 0 n (Nat.zero_le _) hb (by omega) hp), Nat.dvd_add h.2.1 (Nat.dvd_refl _), hb, fun x hx hxa => ?_, fun x c1 c2 c3 => (h.2.2.2.2 x c1 (by omega) c3).out hp (Or.inr c2)⟩
  have := dvd_le hx h.2.1 hxa
  rcases Nat.eq_or_lt_of_le this with rfl | h3
  · refine ⟨hsd, pkeys hp (by omega) (fun p c1 c2 => ?_)⟩
    by_cases c : p < x + s
    · have := h1.2 p c1 c; omega
    · have := h2.2 p (by omega) (by omega); omega
  · have h4 := dvd_le (c := 2 * s) (x := x + 2 * s) (a := a) (Nat.dvd_add hx (Nat.dvd_refl _)) h.2.1 (by omega)
    exact (h.2.2.2.1 x hx h3).out hp (Or.inl h4)
theorem Inv3.lastMerge {lt : α → α → Bool} {key : α → Nat} {n s a : Nat} {d dk d' : Array α} (h : Inv3 lt key n s a d dk) (hn : n = d.size) (hs : 0 < s) (hb : n < a + 2 * s) (hm : a + s < n) (hp : PermIn a n dk d') (hsd : SortedIn lt a n d') : Inv2 lt key n (2 * s) d d' := by
  have hz : dk.size = d.size := h.1.1
  have hda := half_dvd h.2.1
  have h1 := h.2.2.2.2 a hda (Nat.le_refl _) (by omega)
  have h2 := h.2.2.2.2 (a + s) (Nat.dvd_add hda (Nat.dvd_refl _)) (by omega) (by omega)
  rw [Nat.min_eq_left (by omega)] at h1
  rw [Nat.min_eq_right (by omega)] at h2
  refine ⟨permIn_trans _ _ _ _ _ h.1 (permIn_mono _ _ a n 0 n (Nat.zero_le _) (Nat.le_refl _) (by omega) hp), fun x hx hxn => ?_⟩
  have := dvd_le hx h.2.1 (by omega)
  rcases Nat.eq_or_lt_of_le this with rfl | h3
  · rw [Nat.min_eq_right (by omega)]
    refine ⟨hsd, pkeys hp (by omega) (fun p c1 c2 => ?_)⟩
    by_cases c : p < x + s
    · have := h1.2 p c1 c; omega
    · have := h2.2 p (by omega) c2; omega
  · have h4 := dvd_le (c := 2 * s) (x := x + 2 * s) (a := a) (Nat.dvd_add hx (Nat.dvd_refl _)) h.2.1 (by omega)
    rw [Nat.min_eq_left (by omega)]
    exact (h.2.2.2.1 x hx h3).out hp (Or.inl h4)
theorem Inv3.lastNone {lt : α → α → Bool} {key : α → Nat} {n s a : Nat} {d dk : Array α} (h : Inv3 lt key n s a d dk) (hs : 0 < s) (hm : n ≤ a + s) : Inv2 lt key n (2 * s) d dk := by
  refine ⟨h.1, fun x hx hxn => ?_⟩
  have := dvd_le hx h.2.1 (by omega)
  rcases Nat.eq_or_lt_of_le this with rfl | h3
  · have h1 := h.2.2.2.2 x (half_dvd h.2.1) (Nat.le_refl _) hxn
    rw [Nat.min_eq_right (by omega)] at h1 ⊢
    exact ⟨h1.1, fun p c1 c2 => by have := h1.2 p c1 c2; omega⟩
  · have h4 := dvd_le (c := 2 * s) (x := x + 2 * s) (a := a) (Nat.dvd_add hx (Nat.dvd_refl _)) h.2.1 (by omega)
    have := h.2.2.1
    rw [Nat.min_eq_left (by omega)]
    exact h.2.2.2.1 x hx h3
/-- the row sorted stably is the row sorted by insertion -/
theorem stable_eq {lt : α → α → Bool} {key : α → Nat} (hS : SWO lt) (hk : ∀ x y, key x = key y → x = y) {n s : Nat} {d dk : Array α} (h : Inv2 (lt2 lt key) key n s d dk) (hn : n = d.size) (hs : n ≤ s) (hkey : ∀ p, p < d.size → key d[p]! = p) : dk = insertionSort lt d 0 d.size := by
  subst hn
  have e := ins_eq (lt := lt) (key := key) d 0 d.size (Nat.le_refl _) (fun p q _ c2 c3 => by rw [hkey p (by omega), hkey q c3]; exact c2)
  obtain ⟨h1, h2⟩ := insertionSort_holds (lt2_swo hS key) d 0 d.size (Nat.zero_le _) (Nat.le_refl _)
  rw [e] at h1 h2
  have h3 : SortedIn (lt2 lt key) 0 d.size dk := by
    intro i j c1 c2 c3
    have := (h.2 0 ⟨0, rfl⟩ (by omega)).1
    rw [Nat.zero_add, Nat.min_eq_right hs] at this
    exact this i j c1 c2 c3
  have k1 := sorted_unique_holds (lt2_swo hS key) (lt2_tot hk) d dk h.1 h3
  have k2 := sorted_unique_holds (lt2_swo hS key) (lt2_tot hk) d _ h1 h2
  exact Array.toList_inj.1 (k1.trans k2.symm)
set_option maxHeartbeats 40000000 in
set_option maxRecDepth 1000000 in
theorem stableAny (enc : α → Value) (hO : OneCell enc) (cf : α → α → Int) (key : α → Nat) (hS : SWO (ltC cf)) (hk : ∀ x y, key x = key y → x = y) (cb : Array Value) (blk off cap : Nat) (d : Array α) (w : World)
    (hkey : ∀ p, p < d.size → key d[p]! = p) (hcmp : CmpR cb enc cf blk off d.size w) (hH : Holds enc w blk off d) (hsz : d.size < 1152921504606846976) :
    Calls Tryz.prog 88 #[.slice (some ⟨blk, off, none⟩) d.size cap, .int .i64 d.size, .func (.func 61) #[] cb] w fun e w' =>
      e = .returned (.tuple #[]) ∧ ∃ n, w' = (putRow enc w blk off (Sort.insertionSort (ltC cf) d 0 d.size)).drewN n := by
  have HI : Asd (∀ (a b : Nat) (dk : Array α) (q : Nat), dk.size = d.size → a ≤ b → b ≤ d.size → Calls Tryz.prog 100 #[.slice (some ⟨blk, off, none⟩) d.size cap, .int .i64 a, .int .i64 b, .func (.func 61) #[] cb] ((putRow enc w blk off dk).drewN q) fun e w' =>
      e = .returned (.tuple #[]) ∧ ∃ q', w' = (putRow enc w blk off (Sort.insertionSort (ltC cf) dk a b)).drewN q') := ⟨fun a b dk q h1 h2 h3 => by
    have h := insSort enc hO cf cb blk off cap a b dk ((putRow enc w blk off dk).drewN q) (cmp_at hcmp h1 q) (holds_putRow enc w blk off d dk hH h1) h2 (by omega) (by omega)
    rw [h1] at h
    refine h.mono ?_
    rintro e w' ⟨he, q2, hw⟩
    refine ⟨he, q + q2, ?_⟩
    rw [hw]
    refine put_at enc w blk off dk _ q q2 ?_
    exact (size_outer' (ltC cf) a b (b - (a + 1)) (a + 1) dk rfl)⟩
  have HM : Asd (∀ (a m b : Nat) (dk : Array α) (q : Nat), dk.size = d.size → a < m → m < b → b ≤ d.size → Runs (lt2 (ltC cf) key) key a m b dk → Calls Tryz.prog 101 #[.slice (some ⟨blk, off, none⟩) d.size cap, .int .i64 a, .int .i64 m, .int .i64 b, .func (.func 61) #[] cb] ((putRow enc w blk off dk).drewN q) fun e w' =>
      e = .returned (.tuple #[]) ∧ ∃ d2, PermIn a b dk d2 ∧ SortedIn (lt2 (ltC cf) key) a b d2 ∧ ∃ q', w' = (putRow enc w blk off d2).drewN q') := ⟨fun a m b dk q h1 h2 h3 h4 h5 => by
    have h := symMerge enc hO cf key hS cb blk off cap (b - a) a m b dk ((putRow enc w blk off dk).drewN q) (Nat.le_refl _) (cmp_at hcmp h1 q) (holds_putRow enc w blk off d dk hH h1) h2 h3 (by omega) (by omega) h5
    rw [h1] at h
    refine h.mono ?_
    rintro e w' ⟨he, d2, p2, s2, q2, hw⟩
    exact ⟨he, d2, p2, s2, q + q2, by rw [hw, put_at enc w blk off dk d2 q q2 p2.1]⟩⟩
  have HST : Hid (w = (putRow enc w blk off d).drewN 0) := (putRow_self enc w blk off d hH).symm
  have HK : Asd (Inv1 (lt2 (ltC cf) key) key d.size 0 d d) := ⟨permIn_refl _ _ _, ⟨0, rfl⟩, Nat.zero_le _, fun x _ c => absurd c (Nat.not_lt_zero _), fun p _ c => hkey p c⟩
  have HE : Asd (∀ (s : Nat) (dk : Array α), Inv2 (lt2 (ltC cf) key) key d.size s d dk → d.size ≤ s → dk = insertionSort (ltC cf) d 0 d.size) := ⟨fun s dk h1 h2 => stable_eq hS hk h1 rfl h2 hkey⟩
  have HZ := Asd.mk hsz
  clear hcmp hH hkey hk hsz
  go_enter Tryz.func88, Tryz.ntmps88
  go_wp2
  go_loopg [7, 8] d.size (fun g1 va vb wr => ∃ (a b q : Nat) (dk : Array α), va = .int .i64 a ∧ vb = .int .i64 b ∧ d.size - a ≤ g1 ∧ Asd (b = a + 20) ∧ Asd (Inv1 (lt2 (ltC cf) key) key d.size a d dk) ∧ wr = (putRow enc w blk off dk).drewN q)
  case atStart => exact ⟨0, 20, 0, d, rfl, rfl, by omega, ⟨rfl⟩, HK, HST.out⟩
  case round =>
    obtain ⟨a, b, q, dk, rfl, rfl, hg1, HB, HV, rfl⟩ := hrel
    have HD : Asd (dk.size = d.size ∧ a ≤ d.size) := ⟨HV.out.1.1, HV.out.2.2.1⟩
    have HAB : Asd (a ≤ b) := ⟨by have := HB.out; omega⟩
    by_cases hlt : b ≤ d.size
    · have hltz : (b : Int) ≤ (d.size : Int) := Int.ofNat_le.mpr hlt
      obtain ⟨b2, hb2⟩ : ∃ b2, b + 20 = b2 := ⟨_, rfl⟩
      have w1 := wadd hb2 (by have := HZ.out; omega)
      have HB2 := Asd.mk hb2
      clear hb2
      go_wp2_with (go_at_call 100; (with_reducible refine (HI.out a b dk q HD.out.1 HAB.out hlt).mono ?_); rintro e w' ⟨rfl, q2, rfl⟩)
      clear w1
      go_roundg (d.size - b)
      case measure => have := HB.out; omega
      case rel =>
        have hB := HB.out
        have hB2 := HB2.out
        refine ⟨b, b2, q2, insertionSort (ltC cf) dk a b, rfl, by first | rfl | (congr 1; unfold wrap64; have := HZ.out; omega), Nat.le_refl _, ⟨by omega⟩, ⟨?_⟩, rfl⟩
        rw [hB]
        exact Inv1.step hS HV.out rfl (by omega)
    · have hltz : ¬ (b : Int) ≤ (d.size : Int) := fun h => hlt (Int.ofNat_le.mp h)
      have HV2 : Asd (Inv2 (lt2 (ltC cf) key) key d.size 20 d (insertionSort (ltC cf) dk a d.size)) := ⟨Inv1.last hS HV.out rfl (by have := HB.out; omega)⟩
      go_wp2_with (go_at_call 100; (with_reducible refine (HI.out a d.size dk q HD.out.1 HD.out.2 (Nat.le_refl _)).mono ?_); rintro e w' ⟨rfl, q2, rfl⟩)
      go_loopg [6] d.size (fun g2 vs wr => ∃ (s q : Nat) (dk : Array α), vs = .int .i64 s ∧ d.size - s ≤ g2 ∧ Asd (0 < s ∧ s ≤ 2 * d.size + 20) ∧ Asd (Inv2 (lt2 (ltC cf) key) key d.size s d dk) ∧ wr = (putRow enc w blk off dk).drewN q)
      case atStart => exact ⟨20, q2, _, rfl, by omega, ⟨by omega⟩, HV2, rfl⟩
      case round =>
        clear HV2 HB hltz hlt HV HD HAB
        obtain ⟨s, q3, dk3, rfl, hg2, HS, HW, rfl⟩ := hrel
        by_cases hsn : s < d.size
        · have hsnz : (s : Int) < (d.size : Int) := Int.ofNat_lt.mpr hsn
          obtain ⟨s2, hs2⟩ : ∃ s2, s2 = 2 * s := ⟨_, rfl⟩
          have hss : s2 < 9223372036854775808 := by have := HZ.out; omega
          have x1 := wmul2 hs2 hss
          have x2 := wmul2' hs2 hss
          have HS2 := Asd.mk hs2
          clear hs2 hss
          go_wp2
          go_loopg [7, 8] d.size (fun g3 va vb wr => ∃ (a b q : Nat) (dk : Array α), va = .int .i64 a ∧ vb = .int .i64 b ∧ d.size - a ≤ g3 ∧ Asd (b = a + 2 * s) ∧ Asd (Inv3 (lt2 (ltC cf) key) key d.size s a d dk) ∧ wr = (putRow enc w blk off dk).drewN q)
          case atStart => exact ⟨0, s2, q3, dk3, rfl, by first | rfl | (rw [x1]), by omega, ⟨by have := HS2.out; omega⟩, ⟨Inv3.start HW.out⟩, rfl⟩
          case round =>
            obtain ⟨a, b, q4, dk4, rfl, rfl, hg3, HB, HV, rfl⟩ := hrel
            have HD : Asd (dk4.size = d.size) := ⟨HV.out.1.1⟩
            obtain ⟨m, hm⟩ : ∃ m, a + s = m := ⟨_, rfl⟩
            have HMm := Asd.mk hm
            have hmm : m < 9223372036854775808 := by have := HZ.out; have := HV.out.2.2.1; clear x1 x2; omega
            have x3 := wadd hm hmm
            clear hm hmm
            by_cases hbn : b ≤ d.size
            · have hbnz : (b : Int) ≤ (d.size : Int) := Int.ofNat_le.mpr hbn
              obtain ⟨b3, hb3⟩ : ∃ b3, b + s2 = b3 := ⟨_, rfl⟩
              have hbb : b3 < 9223372036854775808 := by have := HZ.out; have := HS2.out; clear x1 x2 x3; omega
              have x4 := wadd hb3 hbb
              have HB3 := Asd.mk hb3
              have HG : Asd (a < m ∧ m < b ∧ Runs (lt2 (ltC cf) key) key a m b dk4) := ⟨by
                have hM := HMm.out
                have hB := HB.out
                have hS' := HS.out
                clear x1 x2 x3 x4
                subst hM
                exact ⟨by omega, by omega, Inv3.runs HV.out hS'.1 (by omega) (by rw [Nat.min_eq_left (by omega)]; exact hB)⟩⟩
              clear hb3 hbb
              go_wp2_with (go_at_call 101; (with_reducible refine (HM.out a m b dk4 q4 HD.out HG.out.1 HG.out.2.1 hbn HG.out.2.2).mono ?_); rintro e w' ⟨rfl, d2, p2, t2, q5, rfl⟩)
              clear x3 x4
              go_roundg (d.size - b)
              case measure => have := HB.out; have := HS.out; clear x1 x2; omega
              case rel =>
                have hB := HB.out
                have hB3 := HB3.out
                have hS2 := HS2.out
                have hZ := HZ.out
                have hS' := HS.out
                clear x1 x2
                refine ⟨b, b3, q5, d2, rfl, by first | rfl | (congr 1; unfold wrap64; omega), Nat.le_refl _, ⟨by omega⟩, ⟨?_⟩, rfl⟩
                subst hB
                exact Inv3.step HV.out rfl hS'.1 hbn p2 t2
            · have hbnz : ¬ (b : Int) ≤ (d.size : Int) := fun h => hbn (Int.ofNat_le.mp h)
              by_cases hmn : m < d.size
              · have hmnz : (m : Int) < (d.size : Int) := Int.ofNat_lt.mpr hmn
                have HG : Asd (a < m ∧ Runs (lt2 (ltC cf) key) key a m d.size dk4) := ⟨by
                  have hM := HMm.out
                  have hB := HB.out
                  have hS' := HS.out
                  clear x1 x2 x3
                  subst hM
                  exact ⟨by omega, Inv3.runs HV.out hS'.1 (by omega) (by rw [Nat.min_eq_right (by omega)])⟩⟩
                go_wp2_with (go_at_call 101; (with_reducible refine (HM.out a m d.size dk4 q4 HD.out HG.out.1 hmn (Nat.le_refl _) HG.out.2).mono ?_); rintro e w' ⟨rfl, d2, p2, t2, q5, rfl⟩)
                clear x3
                go_roundg (d.size - s2)
                case measure => have := HS2.out; have := HS.out; clear x1 x2; omega
                case rel =>
                  have hB := HB.out
                  have hM := HMm.out
                  have hS2 := HS2.out
                  have hZ := HZ.out
                  have hS' := HS.out
                  refine ⟨s2, q5, d2, by first | rfl | rw [x2], Nat.le_refl _, ⟨by clear x1 x2; omega⟩, ⟨?_⟩, rfl⟩
                  clear x1 x2
                  subst hM
                  rw [hS2]
                  exact Inv3.lastMerge HV.out rfl hS'.1 (by omega) hmn p2 t2
              · have hmnz : ¬ (m : Int) < (d.size : Int) := fun h => hmn (Int.ofNat_lt.mp h)
                go_wp2
                clear x3
                go_roundg (d.size - s2)
                case measure => have := HS2.out; have := HS.out; clear x1 x2; omega
                case rel =>
                  have hM := HMm.out
                  have hS2 := HS2.out
                  have hZ := HZ.out
                  have hS' := HS.out
                  refine ⟨s2, q4, dk4, by first | rfl | rw [x2], Nat.le_refl _, ⟨by clear x1 x2; omega⟩, ⟨?_⟩, rfl⟩
                  clear x1 x2
                  rw [hS2]
                  exact Inv3.lastNone HV.out hS'.1 (by omega)
        · have hsnz : ¬ (s : Int) < (d.size : Int) := fun h => hsn (Int.ofNat_lt.mp h)
          go_wp2
          go_end0
          have e := HE.out s dk3 HW.out (by omega)
          exact ⟨rfl, q3, by rw [← e]⟩

set_option maxHeartbeats 4000000 in
set_option maxRecDepth 1000000 in
theorem sortStableAny (enc : α → Value) (hO : OneCell enc) (cf : α → α → Int) (key : α → Nat) (hS : SWO (ltC cf)) (hk : ∀ x y, key x = key y → x = y) (cb : Array Value) (blk off cap : Nat) (d : Array α) (w : World)
    (hkey : ∀ p, p < d.size → key d[p]! = p) (hcmp : CmpR cb enc cf blk off d.size w) (hH : Holds enc w blk off d) (hsz : d.size < 1152921504606846976) :
    Calls Tryz.prog 60 #[.slice (some ⟨blk, off, none⟩) d.size cap, .func (.func 61) #[] cb] w fun e w' =>
      e = .returned (.tuple #[]) ∧ ∃ n, w' = (putRow enc w blk off (Sort.insertionSort (ltC cf) d 0 d.size)).drewN n := by
  have hi := stableAny enc hO cf key hS hk cb blk off cap d w hkey hcmp hH hsz
  have HI := Asd.mk hi
  clear hi hcmp hH
  go_enter Tryz.func60, Tryz.ntmps60
  go_wp2_with fail
  refine HI.out.mono ?_
  rintro e w' ⟨rfl, n, rfl⟩
  go_wp2
  go_end0
  exact ⟨rfl, n, rfl⟩
end Go.Proofs.YtbapkiclgkddcaaGreatDoor.Given
