/- symMergeCmpFunc, stableCmpFunc and SortStableFunc of package slices: the row behind the call is the row sorted stably. -/
import Derived.Test.YtbapkiclgkddcaaGreatDoorStbM
namespace Go.Proofs.YtbapkiclgkddcaaGreatDoor.Given
open Go.RowKit Go.Lib Go.Sort Go.Proofs
variable {α : Type} [Inhabited α]
set_option linter.unusedVariables false
theorem wadd {x y z : Nat} (h : x + y = z) (hz : z < 9223372036854775808) : IntKind.i64.wrap ((x : Int) + (y : Int)) = (z : Int) := by rw [IntKind.wrap_i64]; omega
theorem wsub {x y z : Nat} (h : x = z + y) (hz : x < 9223372036854775808) : IntKind.i64.wrap ((x : Int) - (y : Int)) = (z : Int) := by rw [IntKind.wrap_i64]; omega
theorem wpred {x z : Nat} (h : x = z + 1) (hz : x < 9223372036854775808) : IntKind.i64.wrap ((x : Int) - 1) = (z : Int) := by rw [IntKind.wrap_i64]; omega
theorem wsuc {x z : Nat} (h : x + 1 = z) (hz : z < 9223372036854775808) : IntKind.i64.wrap ((x : Int) + 1) = (z : Int) := by rw [IntKind.wrap_i64]; omega
theorem put_at (enc : α → Value) (w : World) (blk off : Nat) (d d' : Array α) (q r : Nat) (hs : d'.size = d.size) : (putRow enc ((putRow enc w blk off d).drewN q) blk off d').drewN r = (putRow enc w blk off d').drewN (q + r) := by
  show ((putRow enc (putRow enc w blk off d) blk off d').drewN q).drewN r = _
  rw [putRow_putRow enc w blk off d d' hs, World.drewN_drewN]
theorem cmp_at {enc : α → Value} {cf : α → α → Int} {cb : Array Value} {blk off : Nat} {d d' : Array α} {w : World} (hcmp : CmpR cb enc cf blk off d.size w) (hs : d'.size = d.size) (q : Nat) : CmpR cb enc cf blk off d'.size ((putRow enc w blk off d').drewN q) := by
  intro dk hdk x y m n
  rw [put_at enc w blk off d' dk q m hdk]
  exact hcmp dk (hdk.trans hs) x y (q + m) n
/-- what a merge leaves -/
def Merged (lt : α → α → Bool) (enc : α → Value) (w : World) (blk off a b : Nat) (d : Array α) (e : Ending) (w' : World) : Prop :=
  e = .returned (.tuple #[]) ∧ ∃ d', PermIn a b d d' ∧ SortedIn lt a b d' ∧ ∃ q, w' = (putRow enc w blk off d').drewN q
set_option maxHeartbeats 40000000 in
set_option maxRecDepth 1000000 in
theorem symMerge (enc : α → Value) (hO : OneCell enc) (cf : α → α → Int) (key : α → Nat) (hS : SWO (ltC cf)) (cb : Array Value) (blk off cap : Nat) : ∀ (N a m b : Nat) (d : Array α) (w : World), b - a ≤ N →
    CmpR cb enc cf blk off d.size w → Holds enc w blk off d → a < m → m < b → b ≤ d.size → d.size < 4611686018427387904 → Runs (lt2 (ltC cf) key) key a m b d →
    Calls Tryz.prog 101 #[.slice (some ⟨blk, off, none⟩) d.size cap, .int .i64 a, .int .i64 m, .int .i64 b, .func (.func 61) #[] cb] w (Merged (lt2 (ltC cf) key) enc w blk off a b d) := by
  intro N
  induction N with
  | zero => intro a m b d w h _ _ h1 h2; omega
  | succ N ih =>
    intro a m b d w hN hcmp hH ham hmb hb hsz hR
    by_cases c1 : m = a + 1
    · subst c1
      exact symOneL enc hO cf key hS cb blk off cap a b d w hcmp hH hmb hb hsz hR
    by_cases c2 : b = m + 1
    · subst c2
      exact symOneR enc hO cf key hS cb blk off cap a m d w hcmp hH (by omega) (by omega) hsz hR
    have hcl0 := hO.cells
    simp only [Value.cells] at hcl0
    have hst := hO.store Tryz.prog
    -- the calls that may follow
    obtain ⟨mid, hmid⟩ : ∃ mid, mid = (a + b) / 2 := ⟨_, rfl⟩
    have IH : Asd (∀ (a' m' b' : Nat) (d' : Array α) (q' : Nat), d'.size = d.size → b' - a' ≤ N → a' < m' → m' < b' → b' ≤ d.size → Runs (lt2 (ltC cf) key) key a' m' b' d' →
        Calls Tryz.prog 101 #[.slice (some ⟨blk, off, none⟩) d.size cap, .int .i64 a', .int .i64 m', .int .i64 b', .func (.func 61) #[] cb] ((putRow enc w blk off d').drewN q') (Merged (lt2 (ltC cf) key) enc w blk off a' b' d')) := ⟨fun a' m' b' d' q' h1 h2 h3 h4 h5 h6 => by
      have h := ih a' m' b' d' ((putRow enc w blk off d').drewN q') h2 (cmp_at hcmp h1 q') (holds_putRow enc w blk off d d' hH h1) h3 h4 (by omega) (by omega) h6
      rw [h1] at h
      refine h.mono ?_
      rintro e w' ⟨he, d2, s1, s2, q2, hw⟩
      exact ⟨he, d2, s1, s2, q' + q2, by rw [hw, put_at enc w blk off d' d2 q' q2 s1.1]⟩⟩
    have HRot : Asd (∀ (s e : Nat) (q' : Nat), s < m → m < e → e ≤ d.size → Calls Tryz.prog 109 #[.slice (some ⟨blk, off, none⟩) d.size cap, .int .i64 s, .int .i64 m, .int .i64 e, .func (.func 61) #[] cb] ((putRow enc w blk off d).drewN q') fun e' w' =>
        e' = .returned (.tuple #[]) ∧ ∃ d', d'.size = d.size ∧ (∀ k, d'[k]! = rotAt d s m e k) ∧ (∀ A B, A ≤ s → e ≤ B → B ≤ d.size → PermIn A B d d') ∧ ∃ q, w' = (putRow enc w blk off d').drewN q) := ⟨fun s e q' h1 h2 h3 => by
      refine (rotate enc hO _ blk off cap s m e d ((putRow enc w blk off d).drewN q') (holds_putRow enc w blk off d d hH rfl) h1 h2 h3 hsz).mono ?_
      rintro e' w' ⟨he, d2, s1, s2, s3, q2, hw⟩
      exact ⟨he, d2, s1, s2, s3, q' + q2, by rw [hw, put_at enc w blk off d d2 q' q2 s1]⟩⟩
    have HC : Asd _ := ⟨hcmp⟩
    have HST : Hid (w = (putRow enc w blk off d).drewN 0) := (putRow_self enc w blk off d hH).symm
    have HH : Hid (Holds enc w blk off d) := hH
    have HR := Asd.mk hR
    clear ih hcmp hH hR
    obtain ⟨n, hn⟩ : ∃ n, n = mid + m := ⟨_, rfl⟩
    obtain ⟨p, hp⟩ : ∃ p, n = p + 1 := ⟨n - 1, by omega⟩
    obtain ⟨y1, hy1⟩ : ∃ y1, m = y1 + a := ⟨m - a, by omega⟩
    obtain ⟨y2, hy2⟩ : ∃ y2, b = y2 + m := ⟨b - m, by omega⟩
    have t1 : ((y1 : Int) == 1) = false := beq_eq_false_iff_ne.mpr (by omega)
    have t2 : ((y2 : Int) == 1) = false := beq_eq_false_iff_ne.mpr (by omega)
    have t3 : ¬ (y1 : Int) = 1 := by omega
    have t4 : ¬ (y2 : Int) = 1 := by omega
    have b1 : n < 9223372036854775808 := by omega
    have b2 : m < 9223372036854775808 := by omega
    have b3 : b < 9223372036854775808 := by omega
    have b4 : a + b < 9223372036854775808 := by omega
    have HA : Asd (a + 1 < m ∧ m + 1 < b ∧ b ≤ d.size ∧ d.size < 4611686018427387904 ∧ mid = (a + b) / 2 ∧ n = mid + m ∧ n = p + 1 ∧ b - a ≤ N + 1) := ⟨by omega⟩
    have sp : ∃ s0 r0 : Nat, ((mid : Int) < (m : Int) ∧ n = s0 + b ∧ r0 = mid ∧ m > mid) ∨ (¬ (mid : Int) < (m : Int) ∧ s0 = a ∧ r0 = m ∧ ¬ m > mid) := by
      by_cases h : mid < m
      · exact ⟨n - b, mid, Or.inl ⟨by omega, by omega, rfl, h⟩⟩
      · exact ⟨a, m, Or.inr ⟨by omega, rfl, rfl, h⟩⟩
    obtain ⟨s0, r0, sp⟩ := sp
    have HP : Asd ((n = s0 + b ∧ r0 = mid ∧ m > mid) ∨ (s0 = a ∧ r0 = m ∧ ¬ m > mid)) := ⟨by omega⟩
    clear hN ham hmb hb hsz c1 c2
    have w1 := wsub hy1 b2
    have w2 := wsub hy2 b3
    have w3 := half_eq a b b4
    rw [← hmid] at w3
    have w4 := wadd hn.symm b1
    have w5 := wpred hp b1
    clear hmid hn hp hy1 hy2 b2 b3 b4
    rcases sp with ⟨hgt, hs0, hr0, hgm⟩ | ⟨hgt, hs0, hr0, hgm⟩
    · have w6 := wsub hs0 b1
      have es : (Value.int .i64 (s0 : Int)) = .int .i64 (s0 : Int) := rfl
      have er : (Value.int .i64 (mid : Int)) = .int .i64 (r0 : Int) := by rw [hr0]
      clear hs0 hr0 hgm b1
      have ES := Asd.mk es
      have ER := Asd.mk er
      clear es er
      go_enter Tryz.func101, Tryz.ntmps101
      go_wp2
      go_loopg [20, 21] (r0 - s0) (fun g1 vi vj wr => ∃ (s r q : Nat), vi = .int .i64 s ∧ vj = .int .i64 r ∧ r - s ≤ g1 ∧ Asd (s0 ≤ s ∧ s ≤ r ∧ r ≤ r0) ∧ Asd ((s = s0 ∨ (s0 < s ∧ lt2 (ltC cf) key d[n - s]! d[s - 1]! = false)) ∧ (r = r0 ∨ (r < r0 ∧ lt2 (ltC cf) key d[p - r]! d[r]! = true))) ∧ wr = (putRow enc w blk off d).drewN q)
      case atStart =>
        have hA := HA.out
        have hP := HP.out
        exact ⟨s0, r0, 0, by first | rfl | exact ES.out, by first | rfl | exact ER.out, Nat.le_refl _, ⟨by clear w1 w2 w3 w4 w5; (try clear w6); omega⟩, ⟨Or.inl rfl, Or.inl rfl⟩, HST.out⟩
      case round =>
        obtain ⟨s, r, q, rfl, rfl, hg1, HI, HT, rfl⟩ := hrel
        by_cases hlt : s < r
        · have hltz : (s : Int) < (r : Int) := Int.ofNat_lt.mpr hlt
          obtain ⟨c, hc⟩ : ∃ c, c = (s + r) / 2 := ⟨_, rfl⟩
          obtain ⟨pc, hpc⟩ : ∃ pc, pc = p - c := ⟨_, rfl⟩
          have HF : Asd (s ≤ c ∧ c < r ∧ a ≤ c ∧ c < m ∧ m ≤ pc ∧ pc < b ∧ p = pc + c ∧ p < 9223372036854775808 ∧ s + r < 9223372036854775808 ∧ b ≤ d.size) := ⟨by
            have hA := HA.out
            have hP := HP.out
            have hI := HI.out
            clear w1 w2 w3 w4 w5 hltz hgt
            (try clear w6)
            omega⟩
          have hF := HF.out
          have bc : (c : Int) < (d.size : Int) := by clear w1 w2 w3 w4 w5; (try clear w6); omega
          have bpc : (pc : Int) < (d.size : Int) := by clear w1 w2 w3 w4 w5; (try clear w6); omega
          have hHj := holds_putRow enc w blk off d d HH.out rfl
          obtain ⟨vc, hvc⟩ : ∃ v, d[c]! = v := ⟨_, rfl⟩
          obtain ⟨vp, hvp⟩ : ∃ v, d[pc]! = v := ⟨_, rfl⟩
          obtain ⟨cc, _⟩ := hHj c (Nat.lt_of_lt_of_le (Nat.lt_of_lt_of_le hF.2.2.2.1 (Nat.le_trans hF.2.2.2.2.1 (Nat.le_of_lt hF.2.2.2.2.2.1))) hF.2.2.2.2.2.2.2.2.2)
          obtain ⟨cp, _⟩ := hHj pc (Nat.lt_of_lt_of_le hF.2.2.2.2.2.1 hF.2.2.2.2.2.2.2.2.2)
          rw [hvc] at cc
          rw [hvp] at cp
          clear hHj
          have cc' : ((putRow enc w blk off d).drewN q).cell? ⟨blk, off + c, none⟩ = some (enc vc) := cc
          have cp' : ((putRow enc w blk off d).drewN q).cell? ⟨blk, off + pc, none⟩ = some (enc vp) := cp
          clear cc cp
          have hcall := HC.out d rfl vp vc q
          have HE : Asd (lt2 (ltC cf) key d[pc]! d[c]! = decide (cf vp vc < 0)) := ⟨by
            rw [lt2_back (HR.out.cross c pc hF.2.2.1 hF.2.2.2.1 hF.2.2.2.2.1 hF.2.2.2.2.2.1), hvc, hvp]; rfl⟩
          have v1 := half_eq s r hF.2.2.2.2.2.2.2.2.1
          rw [← hc] at v1
          have v2 := wsub hF.2.2.2.2.2.2.1 hF.2.2.2.2.2.2.2.1
          clear hc hpc hvc hvp hF
          obtain ⟨wq, hwq⟩ : ∃ wq, wq = (putRow enc w blk off d).drewN q := ⟨_, rfl⟩
          rw [← hwq] at cc' cp' hcall ⊢
          have HW := Asd.mk hwq
          clear hwq
          by_cases hlv : cf vp vc < 0
          · have hdv : decide (cf vp vc < 0) = true := decide_eq_true hlv
            go_wp2_with fail
            go_quiet (first | (go_at_call 61; refine Calls.quiet_of (hcall _)))
            go_wp2
            have HVV := Asd.mk v1
            clear w1 w2 w3 w4 w5 v1 v2
            (try clear w6)
            go_roundg (c - s)
            case measure => have := HF.out; omega
            case rel =>
              have hF := HF.out
              have hI := HI.out
              have hE := HE.out
              rw [hdv] at hE
              exact ⟨s, c, q + nq, rfl, by first | rfl | rw [HVV.out], Nat.le_refl _, ⟨by omega⟩, ⟨HT.out.1, Or.inr ⟨by omega, by rw [show p - c = pc from by omega]; exact hE⟩⟩, by rw [HW.out, World.drewN_drewN]⟩
          · have hdv : decide (cf vp vc < 0) = false := decide_eq_false hlv
            go_wp2_with fail
            go_quiet (first | (go_at_call 61; refine Calls.quiet_of (hcall _)))
            go_wp2
            have HVV := Asd.mk v1
            clear w1 w2 w3 w4 w5 v1 v2
            (try clear w6)
            go_roundg (r - (c + 1))
            case measure => have := HF.out; omega
            case rel =>
              have hF := HF.out
              have hI := HI.out
              have hA := HA.out
              have hE := HE.out
              rw [hdv] at hE
              refine ⟨c + 1, r, q + nq, by (try rw [HVV.out]); congr 1; unfold wrap64; omega, rfl, Nat.le_refl _, ⟨by omega⟩, ⟨Or.inr ⟨by omega, ?_⟩, HT.out.2⟩, by rw [HW.out, World.drewN_drewN]⟩
              rw [show n - (c + 1) = pc from by omega, Nat.add_sub_cancel]; exact hE
        · have hltz : ¬ (s : Int) < (r : Int) := by clear w1 w2 w3 w4 w5; (try clear w6); omega
          obtain ⟨e, he⟩ : ∃ e, e = n - s := ⟨_, rfl⟩
          have HQ : Asd (a ≤ s ∧ s ≤ m ∧ m ≤ e ∧ e ≤ b ∧ s + e = mid + m ∧ n = e + s ∧ n < 9223372036854775808 ∧ mid - a ≤ N ∧ b - mid ≤ N ∧ a ≤ mid ∧ mid ≤ b ∧ b ≤ d.size ∧ s ≤ mid ∧ mid ≤ e ∧ e = mid + m - s ∧ s ≤ mid + m) := ⟨by
            have hA := HA.out
            have hP := HP.out
            have hI := HI.out
            clear w1 w2 w3 w4 w5 hltz hgt
            (try clear w6)
            omega⟩
          have HPT : Asd ((∀ x y, a ≤ x → x < s → mid + m - s ≤ y → y < b → lt2 (ltC cf) key d[y]! d[x]! = false) ∧ (∀ x y, s ≤ x → x < m → m ≤ y → y < mid + m - s → lt2 (ltC cf) key d[x]! d[y]! = false)) := ⟨by
            have hA := HA.out
            have hP := HP.out
            have hI := HI.out
            have hQ := HQ.out
            have hT := HT.out
            clear w1 w2 w3 w4 w5 hltz hgt
            (try clear w6)
            have hsr : r = s := by omega
            subst hsr
            refine parted (key := key) (lt2_swo hS key) HR.out.left HR.out.right hA.2.2.2.2.1 (by omega) (by omega) ?_ ?_ hQ.1 hQ.2.1 (by omega) (by omega)
            · rcases hT.1 with h | ⟨h, h'⟩
              · left; rcases hP with ⟨g1, g2, g3⟩ | ⟨g1, g2, g3⟩
                · rw [if_pos g3]; omega
                · rw [if_neg g3]; omega
              · by_cases hz : a < r
                · right; exact ⟨hz, by rw [show mid + m - r = n - r from by omega]; exact h'⟩
                · exfalso; rcases hP with ⟨g1, g2, g3⟩ | ⟨g1, g2, g3⟩ <;> omega
            · rcases hT.2 with h | ⟨h, h'⟩
              · left; rcases hP with ⟨g1, g2, g3⟩ | ⟨g1, g2, g3⟩
                · rw [if_pos g3]; omega
                · rw [if_neg g3]; omega
              · right; exact ⟨by rcases hP with ⟨g1, g2, g3⟩ | ⟨g1, g2, g3⟩ <;> omega, by rw [show mid + m - 1 - r = p - r from by omega]; exact h'⟩⟩
          obtain ⟨Good, hGood⟩ : ∃ G : Array α → Prop, G = fun d1 => d1.size = d.size ∧ PermIn a b d d1 ∧ Runs (lt2 (ltC cf) key) key a s mid d1 ∧ Runs (lt2 (ltC cf) key) key mid e b d1 ∧ ∀ x y, a ≤ x → x < mid → mid ≤ y → y < b → lt2 (ltC cf) key d1[y]! d1[x]! = false := ⟨_, rfl⟩
          obtain ⟨Half, hHalf⟩ : ∃ G : Array α → Prop, G = fun d2 => ∃ d1, (d1.size = d.size ∧ PermIn a b d d1 ∧ Runs (lt2 (ltC cf) key) key a s mid d1 ∧ Runs (lt2 (ltC cf) key) key mid e b d1 ∧ ∀ x y, a ≤ x → x < mid → mid ≤ y → y < b → lt2 (ltC cf) key d1[y]! d1[x]! = false) ∧ PermIn a mid d1 d2 ∧ SortedIn (lt2 (ltC cf) key) a mid d2 := ⟨_, rfl⟩
          have G0 : Asd (∀ d1 : Array α, d1.size = d.size → PermIn a b d d1 → (∀ k, d1[k]! = rotAt d s m e k) → Good d1) := ⟨fun d1 g1 g2 g3 => by
            have hQ := HQ.out
            rw [hQ.2.2.2.2.2.2.2.2.2.2.2.2.2.2.1] at g3
            obtain ⟨r1, r2, r3⟩ := rotated (lt2_swo hS key) HR.out hQ.1 hQ.2.1 (by rw [← hQ.2.2.2.2.2.2.2.2.2.2.2.2.2.2.1]; exact hQ.2.2.1) (by rw [← hQ.2.2.2.2.2.2.2.2.2.2.2.2.2.2.1]; exact hQ.2.2.2.1) hQ.2.2.2.2.2.2.2.2.2.2.2.2.2.2.2 HPT.out.1 HPT.out.2 g3
            rw [← hQ.2.2.2.2.2.2.2.2.2.2.2.2.2.2.1] at r2
            rw [hGood]
            exact ⟨g1, g2, r1, r2, r3⟩⟩
          have G0' : Asd ((¬ s < m ∨ ¬ m < e) → Good d) := ⟨fun h => G0.out d rfl (permIn_refl _ _ _) (fun k => by
            have hQ := HQ.out
            unfold rotAt
            clear w1 w2 w3 w4 w5 hltz hgt
            (try clear w6)
            repeat' (first | rfl | (congr 1; omega) | omega | split))⟩
          have L1 : Asd (∀ (d1 : Array α) (q' : Nat), Good d1 → a < s → s < mid → Calls Tryz.prog 101 #[.slice (some ⟨blk, off, none⟩) d.size cap, .int .i64 a, .int .i64 s, .int .i64 mid, .func (.func 61) #[] cb] ((putRow enc w blk off d1).drewN q') fun e' w' => e' = .returned (.tuple #[]) ∧ ∃ d2, Half d2 ∧ ∃ q, w' = (putRow enc w blk off d2).drewN q) := ⟨fun d1 q' g h1 h2 => by
            have hQ := HQ.out
            rw [hGood] at g
            refine (IH.out a s mid d1 q' g.1 hQ.2.2.2.2.2.2.2.1 h1 h2 (Nat.le_trans hQ.2.2.2.2.2.2.2.2.2.2.1 hQ.2.2.2.2.2.2.2.2.2.2.2.1) g.2.2.1).mono ?_
            rintro e' w' ⟨he', d2, s1, s2, q2, hw⟩
            exact ⟨he', d2, by rw [hHalf]; exact ⟨d1, g, s1, s2⟩, q2, hw⟩⟩
          have L1' : Asd (∀ d1 : Array α, Good d1 → (¬ a < s ∨ ¬ s < mid) → Half d1) := ⟨fun d1 g h => by
            have hQ := HQ.out
            rw [hGood] at g
            rw [hHalf]
            exact ⟨d1, g, permIn_refl _ _ _, g.2.2.1.lone (by clear w1 w2 w3 w4 w5 hltz hgt; (try clear w6); omega)⟩⟩
          have L2 : Asd (∀ (d2 : Array α) (q' : Nat), Half d2 → mid < e → e < b → Calls Tryz.prog 101 #[.slice (some ⟨blk, off, none⟩) d.size cap, .int .i64 mid, .int .i64 e, .int .i64 b, .func (.func 61) #[] cb] ((putRow enc w blk off d2).drewN q') (Merged (lt2 (ltC cf) key) enc w blk off a b d)) := ⟨fun d2 q' g h1 h2 => by
            have hQ := HQ.out
            rw [hHalf] at g
            obtain ⟨d1, g, p2, s2⟩ := g
            have hz : d2.size = d.size := p2.1.trans g.1
            have hR2 : Runs (lt2 (ltC cf) key) key mid e b d2 := by
              have hr := g.2.2.2.1
              refine ⟨fun i j c1 c2 c3 => ?_, fun i j c1 c2 c3 => ?_, fun i j c1 c2 c3 c4 => ?_⟩
              · rw [p2.2.1 j (Or.inr (Nat.le_trans c1 (Nat.le_of_lt c2))), p2.2.1 i (Or.inr c1)]; exact hr.left i j c1 c2 c3
              · rw [p2.2.1 j (Or.inr (Nat.le_trans (Nat.le_trans (Nat.le_of_lt h1) c1) (Nat.le_of_lt c2))), p2.2.1 i (Or.inr (Nat.le_trans (Nat.le_of_lt h1) c1))]; exact hr.right i j c1 c2 c3
              · rw [p2.2.1 j (Or.inr (Nat.le_trans (Nat.le_of_lt h1) c3)), p2.2.1 i (Or.inr c1)]; exact hr.cross i j c1 c2 c3 c4
            refine (IH.out mid e b d2 q' hz hQ.2.2.2.2.2.2.2.2.1 h1 h2 hQ.2.2.2.2.2.2.2.2.2.2.2.1 hR2).mono ?_
            rintro e' w' ⟨he', d3, p3, s3, q2, hw⟩
            obtain ⟨x1, x2⟩ := halves hQ.2.2.2.2.2.2.2.2.2.1 hQ.2.2.2.2.2.2.2.2.2.2.1 (by rw [g.1]; exact hQ.2.2.2.2.2.2.2.2.2.2.2.1) g.2.2.2.2 p2 s2 p3 s3
            exact ⟨he', d3, permIn_trans _ _ _ _ _ g.2.1 x1, x2, q2, hw⟩⟩
          have L2' : Asd (∀ (d2 : Array α) (q' : Nat), Half d2 → (¬ mid < e ∨ ¬ e < b) → Merged (lt2 (ltC cf) key) enc w blk off a b d (.returned (.tuple #[])) ((putRow enc w blk off d2).drewN q')) := ⟨fun d2 q' g h => by
            have hQ := HQ.out
            rw [hHalf] at g
            obtain ⟨d1, g, p2, s2⟩ := g
            have s3 : SortedIn (lt2 (ltC cf) key) mid b d2 := by
              have hr := g.2.2.2.1.lone (by clear w1 w2 w3 w4 w5 hltz hgt; (try clear w6); omega)
              intro i j c1 c2 c3
              rw [p2.2.1 j (Or.inr (Nat.le_trans c1 (Nat.le_of_lt c2))), p2.2.1 i (Or.inr c1)]; exact hr i j c1 c2 c3
            obtain ⟨x1, x2⟩ := halves hQ.2.2.2.2.2.2.2.2.2.1 hQ.2.2.2.2.2.2.2.2.2.2.1 (by rw [g.1]; exact hQ.2.2.2.2.2.2.2.2.2.2.2.1) g.2.2.2.2 p2 s2 (permIn_refl _ _ _) s3
            exact ⟨rfl, d2, permIn_trans _ _ _ _ _ g.2.1 x1, x2, q', rfl⟩⟩
          have v3 := wsub HQ.out.2.2.2.2.2.1 HQ.out.2.2.2.2.2.2.1
          clear he hGood hHalf
          by_cases z1 : s < m
          · have z1z : (s : Int) < (m : Int) := Int.ofNat_lt.mpr z1
            by_cases z2 : m < e
            · have z2z : (m : Int) < (e : Int) := Int.ofNat_lt.mpr z2
              by_cases z3 : a < s
              · have z3z : (a : Int) < (s : Int) := Int.ofNat_lt.mpr z3
                by_cases z4 : s < mid
                · have z4z : (s : Int) < (mid : Int) := Int.ofNat_lt.mpr z4
                  by_cases z5 : mid < e
                  · have z5z : (mid : Int) < (e : Int) := Int.ofNat_lt.mpr z5
                    by_cases z6 : e < b
                    · have z6z : (e : Int) < (b : Int) := Int.ofNat_lt.mpr z6
                      go_wp2_with (first | (go_at_call 109; (with_reducible refine (HRot.out s e _ z1 z2 (Nat.le_trans HQ.out.2.2.2.1 HQ.out.2.2.2.2.2.2.2.2.2.2.2.1)).mono ?_); rintro e' w' ⟨rfl, d1, x1, x2, x3, q1, rfl⟩; have gg := G0.out d1 x1 (x3 a b HQ.out.1 HQ.out.2.2.2.1 HQ.out.2.2.2.2.2.2.2.2.2.2.2.1) x2) | (go_at_call 101; (with_reducible refine (L1.out _ _ gg z3 z4).mono ?_); rintro e' w' ⟨rfl, d2, hh2, q2, rfl⟩) | (go_at_call 101; (with_reducible refine (L2.out _ _ hh2 z5 z6).mono ?_); rintro e' w' hfin; obtain ⟨rfl, hfin⟩ := hfin))
                      go_end0
                      exact ⟨rfl, hfin⟩
                    · have z6z : ¬ (e : Int) < (b : Int) := fun h => z6 (Int.ofNat_lt.mp h)
                      go_wp2_with (first | (go_at_call 109; (with_reducible refine (HRot.out s e _ z1 z2 (Nat.le_trans HQ.out.2.2.2.1 HQ.out.2.2.2.2.2.2.2.2.2.2.2.1)).mono ?_); rintro e' w' ⟨rfl, d1, x1, x2, x3, q1, rfl⟩; have gg := G0.out d1 x1 (x3 a b HQ.out.1 HQ.out.2.2.2.1 HQ.out.2.2.2.2.2.2.2.2.2.2.2.1) x2) | (go_at_call 101; (with_reducible refine (L1.out _ _ gg z3 z4).mono ?_); rintro e' w' ⟨rfl, d2, hh2, q2, rfl⟩))
                      go_end0
                      exact L2'.out _ _ hh2 (Or.inr z6)
                  · have z5z : ¬ (mid : Int) < (e : Int) := fun h => z5 (Int.ofNat_lt.mp h)
                    go_wp2_with (first | (go_at_call 109; (with_reducible refine (HRot.out s e _ z1 z2 (Nat.le_trans HQ.out.2.2.2.1 HQ.out.2.2.2.2.2.2.2.2.2.2.2.1)).mono ?_); rintro e' w' ⟨rfl, d1, x1, x2, x3, q1, rfl⟩; have gg := G0.out d1 x1 (x3 a b HQ.out.1 HQ.out.2.2.2.1 HQ.out.2.2.2.2.2.2.2.2.2.2.2.1) x2) | (go_at_call 101; (with_reducible refine (L1.out _ _ gg z3 z4).mono ?_); rintro e' w' ⟨rfl, d2, hh2, q2, rfl⟩))
                    go_end0
                    exact L2'.out _ _ hh2 (Or.inl z5)
                · have z4z : ¬ (s : Int) < (mid : Int) := fun h => z4 (Int.ofNat_lt.mp h)
                  have hh1 := L1'.out
                  by_cases z5 : mid < e
                  · have z5z : (mid : Int) < (e : Int) := Int.ofNat_lt.mpr z5
                    by_cases z6 : e < b
                    · have z6z : (e : Int) < (b : Int) := Int.ofNat_lt.mpr z6
                      go_wp2_with (first | (go_at_call 109; (with_reducible refine (HRot.out s e _ z1 z2 (Nat.le_trans HQ.out.2.2.2.1 HQ.out.2.2.2.2.2.2.2.2.2.2.2.1)).mono ?_); rintro e' w' ⟨rfl, d1, x1, x2, x3, q1, rfl⟩; have gg := G0.out d1 x1 (x3 a b HQ.out.1 HQ.out.2.2.2.1 HQ.out.2.2.2.2.2.2.2.2.2.2.2.1) x2) | (go_at_call 101; (with_reducible refine (L2.out _ _ (hh1 _ gg (Or.inr z4)) z5 z6).mono ?_); rintro e' w' hfin; obtain ⟨rfl, hfin⟩ := hfin))
                      go_end0
                      exact ⟨rfl, hfin⟩
                    · have z6z : ¬ (e : Int) < (b : Int) := fun h => z6 (Int.ofNat_lt.mp h)
                      go_wp2_with (first | (go_at_call 109; (with_reducible refine (HRot.out s e _ z1 z2 (Nat.le_trans HQ.out.2.2.2.1 HQ.out.2.2.2.2.2.2.2.2.2.2.2.1)).mono ?_); rintro e' w' ⟨rfl, d1, x1, x2, x3, q1, rfl⟩; have gg := G0.out d1 x1 (x3 a b HQ.out.1 HQ.out.2.2.2.1 HQ.out.2.2.2.2.2.2.2.2.2.2.2.1) x2))
                      go_end0
                      exact L2'.out _ _ (hh1 _ gg (Or.inr z4)) (Or.inr z6)
                  · have z5z : ¬ (mid : Int) < (e : Int) := fun h => z5 (Int.ofNat_lt.mp h)
                    go_wp2_with (first | (go_at_call 109; (with_reducible refine (HRot.out s e _ z1 z2 (Nat.le_trans HQ.out.2.2.2.1 HQ.out.2.2.2.2.2.2.2.2.2.2.2.1)).mono ?_); rintro e' w' ⟨rfl, d1, x1, x2, x3, q1, rfl⟩; have gg := G0.out d1 x1 (x3 a b HQ.out.1 HQ.out.2.2.2.1 HQ.out.2.2.2.2.2.2.2.2.2.2.2.1) x2))
                    go_end0
                    exact L2'.out _ _ (hh1 _ gg (Or.inr z4)) (Or.inl z5)
              · have z3z : ¬ (a : Int) < (s : Int) := fun h => z3 (Int.ofNat_lt.mp h)
                have hh1 := L1'.out
                by_cases z5 : mid < e
                · have z5z : (mid : Int) < (e : Int) := Int.ofNat_lt.mpr z5
                  by_cases z6 : e < b
                  · have z6z : (e : Int) < (b : Int) := Int.ofNat_lt.mpr z6
                    go_wp2_with (first | (go_at_call 109; (with_reducible refine (HRot.out s e _ z1 z2 (Nat.le_trans HQ.out.2.2.2.1 HQ.out.2.2.2.2.2.2.2.2.2.2.2.1)).mono ?_); rintro e' w' ⟨rfl, d1, x1, x2, x3, q1, rfl⟩; have gg := G0.out d1 x1 (x3 a b HQ.out.1 HQ.out.2.2.2.1 HQ.out.2.2.2.2.2.2.2.2.2.2.2.1) x2) | (go_at_call 101; (with_reducible refine (L2.out _ _ (hh1 _ gg (Or.inl z3)) z5 z6).mono ?_); rintro e' w' hfin; obtain ⟨rfl, hfin⟩ := hfin))
                    go_end0
                    exact ⟨rfl, hfin⟩
                  · have z6z : ¬ (e : Int) < (b : Int) := fun h => z6 (Int.ofNat_lt.mp h)
                    go_wp2_with (first | (go_at_call 109; (with_reducible refine (HRot.out s e _ z1 z2 (Nat.le_trans HQ.out.2.2.2.1 HQ.out.2.2.2.2.2.2.2.2.2.2.2.1)).mono ?_); rintro e' w' ⟨rfl, d1, x1, x2, x3, q1, rfl⟩; have gg := G0.out d1 x1 (x3 a b HQ.out.1 HQ.out.2.2.2.1 HQ.out.2.2.2.2.2.2.2.2.2.2.2.1) x2))
                    go_end0
                    exact L2'.out _ _ (hh1 _ gg (Or.inl z3)) (Or.inr z6)
                · have z5z : ¬ (mid : Int) < (e : Int) := fun h => z5 (Int.ofNat_lt.mp h)
                  go_wp2_with (first | (go_at_call 109; (with_reducible refine (HRot.out s e _ z1 z2 (Nat.le_trans HQ.out.2.2.2.1 HQ.out.2.2.2.2.2.2.2.2.2.2.2.1)).mono ?_); rintro e' w' ⟨rfl, d1, x1, x2, x3, q1, rfl⟩; have gg := G0.out d1 x1 (x3 a b HQ.out.1 HQ.out.2.2.2.1 HQ.out.2.2.2.2.2.2.2.2.2.2.2.1) x2))
                  go_end0
                  exact L2'.out _ _ (hh1 _ gg (Or.inl z3)) (Or.inl z5)
            · have z2z : ¬ (m : Int) < (e : Int) := fun h => z2 (Int.ofNat_lt.mp h)
              have g0 := G0'.out (Or.inr z2)
              by_cases z3 : a < s
              · have z3z : (a : Int) < (s : Int) := Int.ofNat_lt.mpr z3
                by_cases z4 : s < mid
                · have z4z : (s : Int) < (mid : Int) := Int.ofNat_lt.mpr z4
                  by_cases z5 : mid < e
                  · have z5z : (mid : Int) < (e : Int) := Int.ofNat_lt.mpr z5
                    by_cases z6 : e < b
                    · have z6z : (e : Int) < (b : Int) := Int.ofNat_lt.mpr z6
                      go_wp2_with (first | (go_at_call 101; (with_reducible refine (L1.out _ _ g0 z3 z4).mono ?_); rintro e' w' ⟨rfl, d2, hh2, q2, rfl⟩) | (go_at_call 101; (with_reducible refine (L2.out _ _ hh2 z5 z6).mono ?_); rintro e' w' hfin; obtain ⟨rfl, hfin⟩ := hfin))
                      go_end0
                      exact ⟨rfl, hfin⟩
                    · have z6z : ¬ (e : Int) < (b : Int) := fun h => z6 (Int.ofNat_lt.mp h)
                      go_wp2_with (first | (go_at_call 101; (with_reducible refine (L1.out _ _ g0 z3 z4).mono ?_); rintro e' w' ⟨rfl, d2, hh2, q2, rfl⟩))
                      go_end0
                      exact L2'.out _ _ hh2 (Or.inr z6)
                  · have z5z : ¬ (mid : Int) < (e : Int) := fun h => z5 (Int.ofNat_lt.mp h)
                    go_wp2_with (first | (go_at_call 101; (with_reducible refine (L1.out _ _ g0 z3 z4).mono ?_); rintro e' w' ⟨rfl, d2, hh2, q2, rfl⟩))
                    go_end0
                    exact L2'.out _ _ hh2 (Or.inl z5)
                · have z4z : ¬ (s : Int) < (mid : Int) := fun h => z4 (Int.ofNat_lt.mp h)
                  have hh1 := L1'.out _ g0 (Or.inr z4)
                  by_cases z5 : mid < e
                  · have z5z : (mid : Int) < (e : Int) := Int.ofNat_lt.mpr z5
                    by_cases z6 : e < b
                    · have z6z : (e : Int) < (b : Int) := Int.ofNat_lt.mpr z6
                      go_wp2_with (first | (go_at_call 101; (with_reducible refine (L2.out _ _ hh1 z5 z6).mono ?_); rintro e' w' hfin; obtain ⟨rfl, hfin⟩ := hfin))
                      go_end0
                      exact ⟨rfl, hfin⟩
                    · have z6z : ¬ (e : Int) < (b : Int) := fun h => z6 (Int.ofNat_lt.mp h)
                      go_wp2_with (fail)
                      go_end0
                      exact L2'.out _ _ hh1 (Or.inr z6)
                  · have z5z : ¬ (mid : Int) < (e : Int) := fun h => z5 (Int.ofNat_lt.mp h)
                    go_wp2_with (fail)
                    go_end0
                    exact L2'.out _ _ hh1 (Or.inl z5)
              · have z3z : ¬ (a : Int) < (s : Int) := fun h => z3 (Int.ofNat_lt.mp h)
                have hh1 := L1'.out _ g0 (Or.inl z3)
                by_cases z5 : mid < e
                · have z5z : (mid : Int) < (e : Int) := Int.ofNat_lt.mpr z5
                  by_cases z6 : e < b
                  · have z6z : (e : Int) < (b : Int) := Int.ofNat_lt.mpr z6
                    go_wp2_with (first | (go_at_call 101; (with_reducible refine (L2.out _ _ hh1 z5 z6).mono ?_); rintro e' w' hfin; obtain ⟨rfl, hfin⟩ := hfin))
                    go_end0
                    exact ⟨rfl, hfin⟩
                  · have z6z : ¬ (e : Int) < (b : Int) := fun h => z6 (Int.ofNat_lt.mp h)
                    go_wp2_with (fail)
                    go_end0
                    exact L2'.out _ _ hh1 (Or.inr z6)
                · have z5z : ¬ (mid : Int) < (e : Int) := fun h => z5 (Int.ofNat_lt.mp h)
                  go_wp2_with (fail)
                  go_end0
                  exact L2'.out _ _ hh1 (Or.inl z5)
          · have z1z : ¬ (s : Int) < (m : Int) := fun h => z1 (Int.ofNat_lt.mp h)
            have g0 := G0'.out (Or.inl z1)
            by_cases z3 : a < s
            · have z3z : (a : Int) < (s : Int) := Int.ofNat_lt.mpr z3
              by_cases z4 : s < mid
              · have z4z : (s : Int) < (mid : Int) := Int.ofNat_lt.mpr z4
                by_cases z5 : mid < e
                · have z5z : (mid : Int) < (e : Int) := Int.ofNat_lt.mpr z5
                  by_cases z6 : e < b
                  · have z6z : (e : Int) < (b : Int) := Int.ofNat_lt.mpr z6
                    go_wp2_with (first | (go_at_call 101; (with_reducible refine (L1.out _ _ g0 z3 z4).mono ?_); rintro e' w' ⟨rfl, d2, hh2, q2, rfl⟩) | (go_at_call 101; (with_reducible refine (L2.out _ _ hh2 z5 z6).mono ?_); rintro e' w' hfin; obtain ⟨rfl, hfin⟩ := hfin))
                    go_end0
                    exact ⟨rfl, hfin⟩
                  · have z6z : ¬ (e : Int) < (b : Int) := fun h => z6 (Int.ofNat_lt.mp h)
                    go_wp2_with (first | (go_at_call 101; (with_reducible refine (L1.out _ _ g0 z3 z4).mono ?_); rintro e' w' ⟨rfl, d2, hh2, q2, rfl⟩))
                    go_end0
                    exact L2'.out _ _ hh2 (Or.inr z6)
                · have z5z : ¬ (mid : Int) < (e : Int) := fun h => z5 (Int.ofNat_lt.mp h)
                  go_wp2_with (first | (go_at_call 101; (with_reducible refine (L1.out _ _ g0 z3 z4).mono ?_); rintro e' w' ⟨rfl, d2, hh2, q2, rfl⟩))
                  go_end0
                  exact L2'.out _ _ hh2 (Or.inl z5)
              · have z4z : ¬ (s : Int) < (mid : Int) := fun h => z4 (Int.ofNat_lt.mp h)
                have hh1 := L1'.out _ g0 (Or.inr z4)
                by_cases z5 : mid < e
                · have z5z : (mid : Int) < (e : Int) := Int.ofNat_lt.mpr z5
                  by_cases z6 : e < b
                  · have z6z : (e : Int) < (b : Int) := Int.ofNat_lt.mpr z6
                    go_wp2_with (first | (go_at_call 101; (with_reducible refine (L2.out _ _ hh1 z5 z6).mono ?_); rintro e' w' hfin; obtain ⟨rfl, hfin⟩ := hfin))
                    go_end0
                    exact ⟨rfl, hfin⟩
                  · have z6z : ¬ (e : Int) < (b : Int) := fun h => z6 (Int.ofNat_lt.mp h)
                    go_wp2_with (fail)
                    go_end0
                    exact L2'.out _ _ hh1 (Or.inr z6)
                · have z5z : ¬ (mid : Int) < (e : Int) := fun h => z5 (Int.ofNat_lt.mp h)
                  go_wp2_with (fail)
                  go_end0
                  exact L2'.out _ _ hh1 (Or.inl z5)
            · have z3z : ¬ (a : Int) < (s : Int) := fun h => z3 (Int.ofNat_lt.mp h)
              have hh1 := L1'.out _ g0 (Or.inl z3)
              by_cases z5 : mid < e
              · have z5z : (mid : Int) < (e : Int) := Int.ofNat_lt.mpr z5
                by_cases z6 : e < b
                · have z6z : (e : Int) < (b : Int) := Int.ofNat_lt.mpr z6
                  go_wp2_with (first | (go_at_call 101; (with_reducible refine (L2.out _ _ hh1 z5 z6).mono ?_); rintro e' w' hfin; obtain ⟨rfl, hfin⟩ := hfin))
                  go_end0
                  exact ⟨rfl, hfin⟩
                · have z6z : ¬ (e : Int) < (b : Int) := fun h => z6 (Int.ofNat_lt.mp h)
                  go_wp2_with (fail)
                  go_end0
                  exact L2'.out _ _ hh1 (Or.inr z6)
              · have z5z : ¬ (mid : Int) < (e : Int) := fun h => z5 (Int.ofNat_lt.mp h)
                go_wp2_with (fail)
                go_end0
                exact L2'.out _ _ hh1 (Or.inl z5)
    · have es : (Value.int .i64 (a : Int)) = .int .i64 (s0 : Int) := by rw [hs0]
      have er : (Value.int .i64 (m : Int)) = .int .i64 (r0 : Int) := by rw [hr0]
      clear hs0 hr0 hgm b1
      have ES := Asd.mk es
      have ER := Asd.mk er
      clear es er
      go_enter Tryz.func101, Tryz.ntmps101
      go_wp2
      go_loopg [20, 21] (r0 - s0) (fun g1 vi vj wr => ∃ (s r q : Nat), vi = .int .i64 s ∧ vj = .int .i64 r ∧ r - s ≤ g1 ∧ Asd (s0 ≤ s ∧ s ≤ r ∧ r ≤ r0) ∧ Asd ((s = s0 ∨ (s0 < s ∧ lt2 (ltC cf) key d[n - s]! d[s - 1]! = false)) ∧ (r = r0 ∨ (r < r0 ∧ lt2 (ltC cf) key d[p - r]! d[r]! = true))) ∧ wr = (putRow enc w blk off d).drewN q)
      case atStart =>
        have hA := HA.out
        have hP := HP.out
        exact ⟨s0, r0, 0, by first | rfl | exact ES.out, by first | rfl | exact ER.out, Nat.le_refl _, ⟨by clear w1 w2 w3 w4 w5; (try clear w6); omega⟩, ⟨Or.inl rfl, Or.inl rfl⟩, HST.out⟩
      case round =>
        obtain ⟨s, r, q, rfl, rfl, hg1, HI, HT, rfl⟩ := hrel
        by_cases hlt : s < r
        · have hltz : (s : Int) < (r : Int) := Int.ofNat_lt.mpr hlt
          obtain ⟨c, hc⟩ : ∃ c, c = (s + r) / 2 := ⟨_, rfl⟩
          obtain ⟨pc, hpc⟩ : ∃ pc, pc = p - c := ⟨_, rfl⟩
          have HF : Asd (s ≤ c ∧ c < r ∧ a ≤ c ∧ c < m ∧ m ≤ pc ∧ pc < b ∧ p = pc + c ∧ p < 9223372036854775808 ∧ s + r < 9223372036854775808 ∧ b ≤ d.size) := ⟨by
            have hA := HA.out
            have hP := HP.out
            have hI := HI.out
            clear w1 w2 w3 w4 w5 hltz hgt
            (try clear w6)
            omega⟩
          have hF := HF.out
          have bc : (c : Int) < (d.size : Int) := by clear w1 w2 w3 w4 w5; (try clear w6); omega
          have bpc : (pc : Int) < (d.size : Int) := by clear w1 w2 w3 w4 w5; (try clear w6); omega
          have hHj := holds_putRow enc w blk off d d HH.out rfl
          obtain ⟨vc, hvc⟩ : ∃ v, d[c]! = v := ⟨_, rfl⟩
          obtain ⟨vp, hvp⟩ : ∃ v, d[pc]! = v := ⟨_, rfl⟩
          obtain ⟨cc, _⟩ := hHj c (Nat.lt_of_lt_of_le (Nat.lt_of_lt_of_le hF.2.2.2.1 (Nat.le_trans hF.2.2.2.2.1 (Nat.le_of_lt hF.2.2.2.2.2.1))) hF.2.2.2.2.2.2.2.2.2)
          obtain ⟨cp, _⟩ := hHj pc (Nat.lt_of_lt_of_le hF.2.2.2.2.2.1 hF.2.2.2.2.2.2.2.2.2)
          rw [hvc] at cc
          rw [hvp] at cp
          clear hHj
          have cc' : ((putRow enc w blk off d).drewN q).cell? ⟨blk, off + c, none⟩ = some (enc vc) := cc
          have cp' : ((putRow enc w blk off d).drewN q).cell? ⟨blk, off + pc, none⟩ = some (enc vp) := cp
          clear cc cp
          have hcall := HC.out d rfl vp vc q
          have HE : Asd (lt2 (ltC cf) key d[pc]! d[c]! = decide (cf vp vc < 0)) := ⟨by
            rw [lt2_back (HR.out.cross c pc hF.2.2.1 hF.2.2.2.1 hF.2.2.2.2.1 hF.2.2.2.2.2.1), hvc, hvp]; rfl⟩
          have v1 := half_eq s r hF.2.2.2.2.2.2.2.2.1
          rw [← hc] at v1
          have v2 := wsub hF.2.2.2.2.2.2.1 hF.2.2.2.2.2.2.2.1
          clear hc hpc hvc hvp hF
          obtain ⟨wq, hwq⟩ : ∃ wq, wq = (putRow enc w blk off d).drewN q := ⟨_, rfl⟩
          rw [← hwq] at cc' cp' hcall ⊢
          have HW := Asd.mk hwq
          clear hwq
          by_cases hlv : cf vp vc < 0
          · have hdv : decide (cf vp vc < 0) = true := decide_eq_true hlv
            go_wp2_with fail
            go_quiet (first | (go_at_call 61; refine Calls.quiet_of (hcall _)))
            go_wp2
            have HVV := Asd.mk v1
            clear w1 w2 w3 w4 w5 v1 v2
            (try clear w6)
            go_roundg (c - s)
            case measure => have := HF.out; omega
            case rel =>
              have hF := HF.out
              have hI := HI.out
              have hE := HE.out
              rw [hdv] at hE
              exact ⟨s, c, q + nq, rfl, by first | rfl | rw [HVV.out], Nat.le_refl _, ⟨by omega⟩, ⟨HT.out.1, Or.inr ⟨by omega, by rw [show p - c = pc from by omega]; exact hE⟩⟩, by rw [HW.out, World.drewN_drewN]⟩
          · have hdv : decide (cf vp vc < 0) = false := decide_eq_false hlv
            go_wp2_with fail
            go_quiet (first | (go_at_call 61; refine Calls.quiet_of (hcall _)))
            go_wp2
            have HVV := Asd.mk v1
            clear w1 w2 w3 w4 w5 v1 v2
            (try clear w6)
            go_roundg (r - (c + 1))
            case measure => have := HF.out; omega
            case rel =>
              have hF := HF.out
              have hI := HI.out
              have hA := HA.out
              have hE := HE.out
              rw [hdv] at hE
              refine ⟨c + 1, r, q + nq, by (try rw [HVV.out]); congr 1; unfold wrap64; omega, rfl, Nat.le_refl _, ⟨by omega⟩, ⟨Or.inr ⟨by omega, ?_⟩, HT.out.2⟩, by rw [HW.out, World.drewN_drewN]⟩
              rw [show n - (c + 1) = pc from by omega, Nat.add_sub_cancel]; exact hE
        · have hltz : ¬ (s : Int) < (r : Int) := by clear w1 w2 w3 w4 w5; (try clear w6); omega
          obtain ⟨e, he⟩ : ∃ e, e = n - s := ⟨_, rfl⟩
          have HQ : Asd (a ≤ s ∧ s ≤ m ∧ m ≤ e ∧ e ≤ b ∧ s + e = mid + m ∧ n = e + s ∧ n < 9223372036854775808 ∧ mid - a ≤ N ∧ b - mid ≤ N ∧ a ≤ mid ∧ mid ≤ b ∧ b ≤ d.size ∧ s ≤ mid ∧ mid ≤ e ∧ e = mid + m - s ∧ s ≤ mid + m) := ⟨by
            have hA := HA.out
            have hP := HP.out
            have hI := HI.out
            clear w1 w2 w3 w4 w5 hltz hgt
            (try clear w6)
            omega⟩
          have HPT : Asd ((∀ x y, a ≤ x → x < s → mid + m - s ≤ y → y < b → lt2 (ltC cf) key d[y]! d[x]! = false) ∧ (∀ x y, s ≤ x → x < m → m ≤ y → y < mid + m - s → lt2 (ltC cf) key d[x]! d[y]! = false)) := ⟨by
            have hA := HA.out
            have hP := HP.out
            have hI := HI.out
            have hQ := HQ.out
            have hT := HT.out
            clear w1 w2 w3 w4 w5 hltz hgt
            (try clear w6)
            have hsr : r = s := by omega
            subst hsr
            refine parted (key := key) (lt2_swo hS key) HR.out.left HR.out.right hA.2.2.2.2.1 (by omega) (by omega) ?_ ?_ hQ.1 hQ.2.1 (by omega) (by omega)
            · rcases hT.1 with h | ⟨h, h'⟩
              · left; rcases hP with ⟨g1, g2, g3⟩ | ⟨g1, g2, g3⟩
                · rw [if_pos g3]; omega
                · rw [if_neg g3]; omega
              · by_cases hz : a < r
                · right; exact ⟨hz, by rw [show mid + m - r = n - r from by omega]; exact h'⟩
                · exfalso; rcases hP with ⟨g1, g2, g3⟩ | ⟨g1, g2, g3⟩ <;> omega
            · rcases hT.2 with h | ⟨h, h'⟩
              · left; rcases hP with ⟨g1, g2, g3⟩ | ⟨g1, g2, g3⟩
                · rw [if_pos g3]; omega
                · rw [if_neg g3]; omega
              · right; exact ⟨by rcases hP with ⟨g1, g2, g3⟩ | ⟨g1, g2, g3⟩ <;> omega, by rw [show mid + m - 1 - r = p - r from by omega]; exact h'⟩⟩
          obtain ⟨Good, hGood⟩ : ∃ G : Array α → Prop, G = fun d1 => d1.size = d.size ∧ PermIn a b d d1 ∧ Runs (lt2 (ltC cf) key) key a s mid d1 ∧ Runs (lt2 (ltC cf) key) key mid e b d1 ∧ ∀ x y, a ≤ x → x < mid → mid ≤ y → y < b → lt2 (ltC cf) key d1[y]! d1[x]! = false := ⟨_, rfl⟩
          obtain ⟨Half, hHalf⟩ : ∃ G : Array α → Prop, G = fun d2 => ∃ d1, (d1.size = d.size ∧ PermIn a b d d1 ∧ Runs (lt2 (ltC cf) key) key a s mid d1 ∧ Runs (lt2 (ltC cf) key) key mid e b d1 ∧ ∀ x y, a ≤ x → x < mid → mid ≤ y → y < b → lt2 (ltC cf) key d1[y]! d1[x]! = false) ∧ PermIn a mid d1 d2 ∧ SortedIn (lt2 (ltC cf) key) a mid d2 := ⟨_, rfl⟩
          have G0 : Asd (∀ d1 : Array α, d1.size = d.size → PermIn a b d d1 → (∀ k, d1[k]! = rotAt d s m e k) → Good d1) := ⟨fun d1 g1 g2 g3 => by
            have hQ := HQ.out
            rw [hQ.2.2.2.2.2.2.2.2.2.2.2.2.2.2.1] at g3
            obtain ⟨r1, r2, r3⟩ := rotated (lt2_swo hS key) HR.out hQ.1 hQ.2.1 (by rw [← hQ.2.2.2.2.2.2.2.2.2.2.2.2.2.2.1]; exact hQ.2.2.1) (by rw [← hQ.2.2.2.2.2.2.2.2.2.2.2.2.2.2.1]; exact hQ.2.2.2.1) hQ.2.2.2.2.2.2.2.2.2.2.2.2.2.2.2 HPT.out.1 HPT.out.2 g3
            rw [← hQ.2.2.2.2.2.2.2.2.2.2.2.2.2.2.1] at r2
            rw [hGood]
            exact ⟨g1, g2, r1, r2, r3⟩⟩
          have G0' : Asd ((¬ s < m ∨ ¬ m < e) → Good d) := ⟨fun h => G0.out d rfl (permIn_refl _ _ _) (fun k => by
            have hQ := HQ.out
            unfold rotAt
            clear w1 w2 w3 w4 w5 hltz hgt
            (try clear w6)
            repeat' (first | rfl | (congr 1; omega) | omega | split))⟩
          have L1 : Asd (∀ (d1 : Array α) (q' : Nat), Good d1 → a < s → s < mid → Calls Tryz.prog 101 #[.slice (some ⟨blk, off, none⟩) d.size cap, .int .i64 a, .int .i64 s, .int .i64 mid, .func (.func 61) #[] cb] ((putRow enc w blk off d1).drewN q') fun e' w' => e' = .returned (.tuple #[]) ∧ ∃ d2, Half d2 ∧ ∃ q, w' = (putRow enc w blk off d2).drewN q) := ⟨fun d1 q' g h1 h2 => by
            have hQ := HQ.out
            rw [hGood] at g
            refine (IH.out a s mid d1 q' g.1 hQ.2.2.2.2.2.2.2.1 h1 h2 (Nat.le_trans hQ.2.2.2.2.2.2.2.2.2.2.1 hQ.2.2.2.2.2.2.2.2.2.2.2.1) g.2.2.1).mono ?_
            rintro e' w' ⟨he', d2, s1, s2, q2, hw⟩
            exact ⟨he', d2, by rw [hHalf]; exact ⟨d1, g, s1, s2⟩, q2, hw⟩⟩
          have L1' : Asd (∀ d1 : Array α, Good d1 → (¬ a < s ∨ ¬ s < mid) → Half d1) := ⟨fun d1 g h => by
            have hQ := HQ.out
            rw [hGood] at g
            rw [hHalf]
            exact ⟨d1, g, permIn_refl _ _ _, g.2.2.1.lone (by clear w1 w2 w3 w4 w5 hltz hgt; (try clear w6); omega)⟩⟩
          have L2 : Asd (∀ (d2 : Array α) (q' : Nat), Half d2 → mid < e → e < b → Calls Tryz.prog 101 #[.slice (some ⟨blk, off, none⟩) d.size cap, .int .i64 mid, .int .i64 e, .int .i64 b, .func (.func 61) #[] cb] ((putRow enc w blk off d2).drewN q') (Merged (lt2 (ltC cf) key) enc w blk off a b d)) := ⟨fun d2 q' g h1 h2 => by
            have hQ := HQ.out
            rw [hHalf] at g
            obtain ⟨d1, g, p2, s2⟩ := g
            have hz : d2.size = d.size := p2.1.trans g.1
            have hR2 : Runs (lt2 (ltC cf) key) key mid e b d2 := by
              have hr := g.2.2.2.1
              refine ⟨fun i j c1 c2 c3 => ?_, fun i j c1 c2 c3 => ?_, fun i j c1 c2 c3 c4 => ?_⟩
              · rw [p2.2.1 j (Or.inr (Nat.le_trans c1 (Nat.le_of_lt c2))), p2.2.1 i (Or.inr c1)]; exact hr.left i j c1 c2 c3
              · rw [p2.2.1 j (Or.inr (Nat.le_trans (Nat.le_trans (Nat.le_of_lt h1) c1) (Nat.le_of_lt c2))), p2.2.1 i (Or.inr (Nat.le_trans (Nat.le_of_lt h1) c1))]; exact hr.right i j c1 c2 c3
              · rw [p2.2.1 j (Or.inr (Nat.le_trans (Nat.le_of_lt h1) c3)), p2.2.1 i (Or.inr c1)]; exact hr.cross i j c1 c2 c3 c4
            refine (IH.out mid e b d2 q' hz hQ.2.2.2.2.2.2.2.2.1 h1 h2 hQ.2.2.2.2.2.2.2.2.2.2.2.1 hR2).mono ?_
            rintro e' w' ⟨he', d3, p3, s3, q2, hw⟩
            obtain ⟨x1, x2⟩ := halves hQ.2.2.2.2.2.2.2.2.2.1 hQ.2.2.2.2.2.2.2.2.2.2.1 (by rw [g.1]; exact hQ.2.2.2.2.2.2.2.2.2.2.2.1) g.2.2.2.2 p2 s2 p3 s3
            exact ⟨he', d3, permIn_trans _ _ _ _ _ g.2.1 x1, x2, q2, hw⟩⟩
          have L2' : Asd (∀ (d2 : Array α) (q' : Nat), Half d2 → (¬ mid < e ∨ ¬ e < b) → Merged (lt2 (ltC cf) key) enc w blk off a b d (.returned (.tuple #[])) ((putRow enc w blk off d2).drewN q')) := ⟨fun d2 q' g h => by
            have hQ := HQ.out
            rw [hHalf] at g
            obtain ⟨d1, g, p2, s2⟩ := g
            have s3 : SortedIn (lt2 (ltC cf) key) mid b d2 := by
              have hr := g.2.2.2.1.lone (by clear w1 w2 w3 w4 w5 hltz hgt; (try clear w6); omega)
              intro i j c1 c2 c3
              rw [p2.2.1 j (Or.inr (Nat.le_trans c1 (Nat.le_of_lt c2))), p2.2.1 i (Or.inr c1)]; exact hr i j c1 c2 c3
            obtain ⟨x1, x2⟩ := halves hQ.2.2.2.2.2.2.2.2.2.1 hQ.2.2.2.2.2.2.2.2.2.2.1 (by rw [g.1]; exact hQ.2.2.2.2.2.2.2.2.2.2.2.1) g.2.2.2.2 p2 s2 (permIn_refl _ _ _) s3
            exact ⟨rfl, d2, permIn_trans _ _ _ _ _ g.2.1 x1, x2, q', rfl⟩⟩
          have v3 := wsub HQ.out.2.2.2.2.2.1 HQ.out.2.2.2.2.2.2.1
          clear he hGood hHalf
          by_cases z1 : s < m
          · have z1z : (s : Int) < (m : Int) := Int.ofNat_lt.mpr z1
            by_cases z2 : m < e
            · have z2z : (m : Int) < (e : Int) := Int.ofNat_lt.mpr z2
              by_cases z3 : a < s
              · have z3z : (a : Int) < (s : Int) := Int.ofNat_lt.mpr z3
                by_cases z4 : s < mid
                · have z4z : (s : Int) < (mid : Int) := Int.ofNat_lt.mpr z4
                  by_cases z5 : mid < e
                  · have z5z : (mid : Int) < (e : Int) := Int.ofNat_lt.mpr z5
                    by_cases z6 : e < b
                    · have z6z : (e : Int) < (b : Int) := Int.ofNat_lt.mpr z6
                      go_wp2_with (first | (go_at_call 109; (with_reducible refine (HRot.out s e _ z1 z2 (Nat.le_trans HQ.out.2.2.2.1 HQ.out.2.2.2.2.2.2.2.2.2.2.2.1)).mono ?_); rintro e' w' ⟨rfl, d1, x1, x2, x3, q1, rfl⟩; have gg := G0.out d1 x1 (x3 a b HQ.out.1 HQ.out.2.2.2.1 HQ.out.2.2.2.2.2.2.2.2.2.2.2.1) x2) | (go_at_call 101; (with_reducible refine (L1.out _ _ gg z3 z4).mono ?_); rintro e' w' ⟨rfl, d2, hh2, q2, rfl⟩) | (go_at_call 101; (with_reducible refine (L2.out _ _ hh2 z5 z6).mono ?_); rintro e' w' hfin; obtain ⟨rfl, hfin⟩ := hfin))
                      go_end0
                      exact ⟨rfl, hfin⟩
                    · have z6z : ¬ (e : Int) < (b : Int) := fun h => z6 (Int.ofNat_lt.mp h)
                      go_wp2_with (first | (go_at_call 109; (with_reducible refine (HRot.out s e _ z1 z2 (Nat.le_trans HQ.out.2.2.2.1 HQ.out.2.2.2.2.2.2.2.2.2.2.2.1)).mono ?_); rintro e' w' ⟨rfl, d1, x1, x2, x3, q1, rfl⟩; have gg := G0.out d1 x1 (x3 a b HQ.out.1 HQ.out.2.2.2.1 HQ.out.2.2.2.2.2.2.2.2.2.2.2.1) x2) | (go_at_call 101; (with_reducible refine (L1.out _ _ gg z3 z4).mono ?_); rintro e' w' ⟨rfl, d2, hh2, q2, rfl⟩))
                      go_end0
                      exact L2'.out _ _ hh2 (Or.inr z6)
                  · have z5z : ¬ (mid : Int) < (e : Int) := fun h => z5 (Int.ofNat_lt.mp h)
                    go_wp2_with (first | (go_at_call 109; (with_reducible refine (HRot.out s e _ z1 z2 (Nat.le_trans HQ.out.2.2.2.1 HQ.out.2.2.2.2.2.2.2.2.2.2.2.1)).mono ?_); rintro e' w' ⟨rfl, d1, x1, x2, x3, q1, rfl⟩; have gg := G0.out d1 x1 (x3 a b HQ.out.1 HQ.out.2.2.2.1 HQ.out.2.2.2.2.2.2.2.2.2.2.2.1) x2) | (go_at_call 101; (with_reducible refine (L1.out _ _ gg z3 z4).mono ?_); rintro e' w' ⟨rfl, d2, hh2, q2, rfl⟩))
                    go_end0
                    exact L2'.out _ _ hh2 (Or.inl z5)
                · have z4z : ¬ (s : Int) < (mid : Int) := fun h => z4 (Int.ofNat_lt.mp h)
                  have hh1 := L1'.out
                  by_cases z5 : mid < e
                  · have z5z : (mid : Int) < (e : Int) := Int.ofNat_lt.mpr z5
                    by_cases z6 : e < b
                    · have z6z : (e : Int) < (b : Int) := Int.ofNat_lt.mpr z6
                      go_wp2_with (first | (go_at_call 109; (with_reducible refine (HRot.out s e _ z1 z2 (Nat.le_trans HQ.out.2.2.2.1 HQ.out.2.2.2.2.2.2.2.2.2.2.2.1)).mono ?_); rintro e' w' ⟨rfl, d1, x1, x2, x3, q1, rfl⟩; have gg := G0.out d1 x1 (x3 a b HQ.out.1 HQ.out.2.2.2.1 HQ.out.2.2.2.2.2.2.2.2.2.2.2.1) x2) | (go_at_call 101; (with_reducible refine (L2.out _ _ (hh1 _ gg (Or.inr z4)) z5 z6).mono ?_); rintro e' w' hfin; obtain ⟨rfl, hfin⟩ := hfin))
                      go_end0
                      exact ⟨rfl, hfin⟩
                    · have z6z : ¬ (e : Int) < (b : Int) := fun h => z6 (Int.ofNat_lt.mp h)
                      go_wp2_with (first | (go_at_call 109; (with_reducible refine (HRot.out s e _ z1 z2 (Nat.le_trans HQ.out.2.2.2.1 HQ.out.2.2.2.2.2.2.2.2.2.2.2.1)).mono ?_); rintro e' w' ⟨rfl, d1, x1, x2, x3, q1, rfl⟩; have gg := G0.out d1 x1 (x3 a b HQ.out.1 HQ.out.2.2.2.1 HQ.out.2.2.2.2.2.2.2.2.2.2.2.1) x2))
                      go_end0
                      exact L2'.out _ _ (hh1 _ gg (Or.inr z4)) (Or.inr z6)
                  · have z5z : ¬ (mid : Int) < (e : Int) := fun h => z5 (Int.ofNat_lt.mp h)
                    go_wp2_with (first | (go_at_call 109; (with_reducible refine (HRot.out s e _ z1 z2 (Nat.le_trans HQ.out.2.2.2.1 HQ.out.2.2.2.2.2.2.2.2.2.2.2.1)).mono ?_); rintro e' w' ⟨rfl, d1, x1, x2, x3, q1, rfl⟩; have gg := G0.out d1 x1 (x3 a b HQ.out.1 HQ.out.2.2.2.1 HQ.out.2.2.2.2.2.2.2.2.2.2.2.1) x2))
                    go_end0
                    exact L2'.out _ _ (hh1 _ gg (Or.inr z4)) (Or.inl z5)
              · have z3z : ¬ (a : Int) < (s : Int) := fun h => z3 (Int.ofNat_lt.mp h)
                have hh1 := L1'.out
                by_cases z5 : mid < e
                · have z5z : (mid : Int) < (e : Int) := Int.ofNat_lt.mpr z5
                  by_cases z6 : e < b
                  · have z6z : (e : Int) < (b : Int) := Int.ofNat_lt.mpr z6
                    go_wp2_with (first | (go_at_call 109; (with_reducible refine (HRot.out s e _ z1 z2 (Nat.le_trans HQ.out.2.2.2.1 HQ.out.2.2.2.2.2.2.2.2.2.2.2.1)).mono ?_); rintro e' w' ⟨rfl, d1, x1, x2, x3, q1, rfl⟩; have gg := G0.out d1 x1 (x3 a b HQ.out.1 HQ.out.2.2.2.1 HQ.out.2.2.2.2.2.2.2.2.2.2.2.1) x2) | (go_at_call 101; (with_reducible refine (L2.out _ _ (hh1 _ gg (Or.inl z3)) z5 z6).mono ?_); rintro e' w' hfin; obtain ⟨rfl, hfin⟩ := hfin))
                    go_end0
                    exact ⟨rfl, hfin⟩
                  · have z6z : ¬ (e : Int) < (b : Int) := fun h => z6 (Int.ofNat_lt.mp h)
                    go_wp2_with (first | (go_at_call 109; (with_reducible refine (HRot.out s e _ z1 z2 (Nat.le_trans HQ.out.2.2.2.1 HQ.out.2.2.2.2.2.2.2.2.2.2.2.1)).mono ?_); rintro e' w' ⟨rfl, d1, x1, x2, x3, q1, rfl⟩; have gg := G0.out d1 x1 (x3 a b HQ.out.1 HQ.out.2.2.2.1 HQ.out.2.2.2.2.2.2.2.2.2.2.2.1) x2))
                    go_end0
                    exact L2'.out _ _ (hh1 _ gg (Or.inl z3)) (Or.inr z6)
                · have z5z : ¬ (mid : Int) < (e : Int) := fun h => z5 (Int.ofNat_lt.mp h)
                  go_wp2_with (first | (go_at_call 109; (with_reducible refine (HRot.out s e _ z1 z2 (Nat.le_trans HQ.out.2.2.2.1 HQ.out.2.2.2.2.2.2.2.2.2.2.2.1)).mono ?_); rintro e' w' ⟨rfl, d1, x1, x2, x3, q1, rfl⟩; have gg := G0.out d1 x1 (x3 a b HQ.out.1 HQ.out.2.2.2.1 HQ.out.2.2.2.2.2.2.2.2.2.2.2.1) x2))
                  go_end0
                  exact L2'.out _ _ (hh1 _ gg (Or.inl z3)) (Or.inl z5)
            · have z2z : ¬ (m : Int) < (e : Int) := fun h => z2 (Int.ofNat_lt.mp h)
              have g0 := G0'.out (Or.inr z2)
              by_cases z3 : a < s
              · have z3z : (a : Int) < (s : Int) := Int.ofNat_lt.mpr z3
                by_cases z4 : s < mid
                · have z4z : (s : Int) < (mid : Int) := Int.ofNat_lt.mpr z4
                  by_cases z5 : mid < e
                  · have z5z : (mid : Int) < (e : Int) := Int.ofNat_lt.mpr z5
                    by_cases z6 : e < b
                    · have z6z : (e : Int) < (b : Int) := Int.ofNat_lt.mpr z6
                      go_wp2_with (first | (go_at_call 101; (with_reducible refine (L1.out _ _ g0 z3 z4).mono ?_); rintro e' w' ⟨rfl, d2, hh2, q2, rfl⟩) | (go_at_call 101; (with_reducible refine (L2.out _ _ hh2 z5 z6).mono ?_); rintro e' w' hfin; obtain ⟨rfl, hfin⟩ := hfin))
                      go_end0
                      exact ⟨rfl, hfin⟩
                    · have z6z : ¬ (e : Int) < (b : Int) := fun h => z6 (Int.ofNat_lt.mp h)
                      go_wp2_with (first | (go_at_call 101; (with_reducible refine (L1.out _ _ g0 z3 z4).mono ?_); rintro e' w' ⟨rfl, d2, hh2, q2, rfl⟩))
                      go_end0
                      exact L2'.out _ _ hh2 (Or.inr z6)
                  · have z5z : ¬ (mid : Int) < (e : Int) := fun h => z5 (Int.ofNat_lt.mp h)
                    go_wp2_with (first | (go_at_call 101; (with_reducible refine (L1.out _ _ g0 z3 z4).mono ?_); rintro e' w' ⟨rfl, d2, hh2, q2, rfl⟩))
                    go_end0
                    exact L2'.out _ _ hh2 (Or.inl z5)
                · have z4z : ¬ (s : Int) < (mid : Int) := fun h => z4 (Int.ofNat_lt.mp h)
                  have hh1 := L1'.out _ g0 (Or.inr z4)
                  by_cases z5 : mid < e
                  · have z5z : (mid : Int) < (e : Int) := Int.ofNat_lt.mpr z5
                    by_cases z6 : e < b
                    · have z6z : (e : Int) < (b : Int) := Int.ofNat_lt.mpr z6
                      go_wp2_with (first | (go_at_call 101; (with_reducible refine (L2.out _ _ hh1 z5 z6).mono ?_); rintro e' w' hfin; obtain ⟨rfl, hfin⟩ := hfin))
                      go_end0
                      exact ⟨rfl, hfin⟩
                    · have z6z : ¬ (e : Int) < (b : Int) := fun h => z6 (Int.ofNat_lt.mp h)
                      go_wp2_with (fail)
                      go_end0
                      exact L2'.out _ _ hh1 (Or.inr z6)
                  · have z5z : ¬ (mid : Int) < (e : Int) := fun h => z5 (Int.ofNat_lt.mp h)
                    go_wp2_with (fail)
                    go_end0
                    exact L2'.out _ _ hh1 (Or.inl z5)
              · have z3z : ¬ (a : Int) < (s : Int) := fun h => z3 (Int.ofNat_lt.mp h)
                have hh1 := L1'.out _ g0 (Or.inl z3)
                by_cases z5 : mid < e
                · have z5z : (mid : Int) < (e : Int) := Int.ofNat_lt.mpr z5
                  by_cases z6 : e < b
                  · have z6z : (e : Int) < (b : Int) := Int.ofNat_lt.mpr z6
                    go_wp2_with (first | (go_at_call 101; (with_reducible refine (L2.out _ _ hh1 z5 z6).mono ?_); rintro e' w' hfin; obtain ⟨rfl, hfin⟩ := hfin))
                    go_end0
                    exact ⟨rfl, hfin⟩
                  · have z6z : ¬ (e : Int) < (b : Int) := fun h => z6 (Int.ofNat_lt.mp h)
                    go_wp2_with (fail)
                    go_end0
                    exact L2'.out _ _ hh1 (Or.inr z6)
                · have z5z : ¬ (mid : Int) < (e : Int) := fun h => z5 (Int.ofNat_lt.mp h)
                  go_wp2_with (fail)
                  go_end0
                  exact L2'.out _ _ hh1 (Or.inl z5)
          · have z1z : ¬ (s : Int) < (m : Int) := fun h => z1 (Int.ofNat_lt.mp h)
            have g0 := G0'.out (Or.inl z1)
            by_cases z3 : a < s
            · have z3z : (a : Int) < (s : Int) := Int.ofNat_lt.mpr z3
              by_cases z4 : s < mid
              · have z4z : (s : Int) < (mid : Int) := Int.ofNat_lt.mpr z4
                by_cases z5 : mid < e
                · have z5z : (mid : Int) < (e : Int) := Int.ofNat_lt.mpr z5
                  by_cases z6 : e < b
                  · have z6z : (e : Int) < (b : Int) := Int.ofNat_lt.mpr z6
                    go_wp2_with (first | (go_at_call 101; (with_reducible refine (L1.out _ _ g0 z3 z4).mono ?_); rintro e' w' ⟨rfl, d2, hh2, q2, rfl⟩) | (go_at_call 101; (with_reducible refine (L2.out _ _ hh2 z5 z6).mono ?_); rintro e' w' hfin; obtain ⟨rfl, hfin⟩ := hfin))
                    go_end0
                    exact ⟨rfl, hfin⟩
                  · have z6z : ¬ (e : Int) < (b : Int) := fun h => z6 (Int.ofNat_lt.mp h)
                    go_wp2_with (first | (go_at_call 101; (with_reducible refine (L1.out _ _ g0 z3 z4).mono ?_); rintro e' w' ⟨rfl, d2, hh2, q2, rfl⟩))
                    go_end0
                    exact L2'.out _ _ hh2 (Or.inr z6)
                · have z5z : ¬ (mid : Int) < (e : Int) := fun h => z5 (Int.ofNat_lt.mp h)
                  go_wp2_with (first | (go_at_call 101; (with_reducible refine (L1.out _ _ g0 z3 z4).mono ?_); rintro e' w' ⟨rfl, d2, hh2, q2, rfl⟩))
                  go_end0
                  exact L2'.out _ _ hh2 (Or.inl z5)
              · have z4z : ¬ (s : Int) < (mid : Int) := fun h => z4 (Int.ofNat_lt.mp h)
                have hh1 := L1'.out _ g0 (Or.inr z4)
                by_cases z5 : mid < e
                · have z5z : (mid : Int) < (e : Int) := Int.ofNat_lt.mpr z5
                  by_cases z6 : e < b
                  · have z6z : (e : Int) < (b : Int) := Int.ofNat_lt.mpr z6
                    go_wp2_with (first | (go_at_call 101; (with_reducible refine (L2.out _ _ hh1 z5 z6).mono ?_); rintro e' w' hfin; obtain ⟨rfl, hfin⟩ := hfin))
                    go_end0
                    exact ⟨rfl, hfin⟩
                  · have z6z : ¬ (e : Int) < (b : Int) := fun h => z6 (Int.ofNat_lt.mp h)
                    go_wp2_with (fail)
                    go_end0
                    exact L2'.out _ _ hh1 (Or.inr z6)
                · have z5z : ¬ (mid : Int) < (e : Int) := fun h => z5 (Int.ofNat_lt.mp h)
                  go_wp2_with (fail)
                  go_end0
                  exact L2'.out _ _ hh1 (Or.inl z5)
            · have z3z : ¬ (a : Int) < (s : Int) := fun h => z3 (Int.ofNat_lt.mp h)
              have hh1 := L1'.out _ g0 (Or.inl z3)
              by_cases z5 : mid < e
              · have z5z : (mid : Int) < (e : Int) := Int.ofNat_lt.mpr z5
                by_cases z6 : e < b
                · have z6z : (e : Int) < (b : Int) := Int.ofNat_lt.mpr z6
                  go_wp2_with (first | (go_at_call 101; (with_reducible refine (L2.out _ _ hh1 z5 z6).mono ?_); rintro e' w' hfin; obtain ⟨rfl, hfin⟩ := hfin))
                  go_end0
                  exact ⟨rfl, hfin⟩
                · have z6z : ¬ (e : Int) < (b : Int) := fun h => z6 (Int.ofNat_lt.mp h)
                  go_wp2_with (fail)
                  go_end0
                  exact L2'.out _ _ hh1 (Or.inr z6)
              · have z5z : ¬ (mid : Int) < (e : Int) := fun h => z5 (Int.ofNat_lt.mp h)
                go_wp2_with (fail)
                go_end0
                exact L2'.out _ _ hh1 (Or.inl z5)
end Go.Proofs.YtbapkiclgkddcaaGreatDoor.Given
