/- ratio.Apportion at at most 100 weights: what it returns. -/
import Derived.Test.YtbapkiclgkddcaaGreatDoorStbP
import Derived.Test.YtbapkiclgkddcaaGreatDoorK
import Derived.Test.YtbapkiclgkddcaaGreatDoorShort
import Derived.Below
import Derived.Deep.Draws
import Derived.Deep.AppendLies
import Derived.Maps.AppendAt
import Derived.OwnWalk
import Derived.Laws.BytesArg
import Derived.Laws.MakeOwn
import Derived.Laws.OwnMore
import Derived.Deep.OwnRows
import Derived.Tactics
import Derived.Laws.Slices
import Derived.KernelRfl
import Derived.RowKit3
import Derived.WideLaws
import Derived.Deep.DeepCutAuto
import Derived.Deep.CutBlock
import Derived.Deep.RegionHeld3
import Derived.Laws.Rows
import Derived.ArgAppend
import Derived.OrdersHeld
import Derived.RowKit
import Derived.Outline
namespace Go.Proofs.YtbapkiclgkddcaaGreatDoor.Given
open Go.RowKit Go.Lib Go.Sort Go.Proofs.YtbapkiclgkddcaaGreatDoor.Short Go.Proofs.YtbapkiclgkddcaaGreatDoorW.PrintWords Go.Proofs.YtbapkiclgkddcaaGreatDoorW.PrintLast Go.Proofs.YtbapkiclgkddcaaGreatDoorW.PrintMore
set_option linter.unusedVariables false
theorem infoI : (Tryz.prog.info? 3).map (fun i => (i.zero, i.size, i.bytes)) = some (some (.int .i64 0), 1, 8) := by kernel_rfl

/-- too small or too great -/
def bad (x : Int) : Bool := decide (x < 0) || decide (x > 1073741824)
def isum : List Int → Int
  | [] => 0
  | x :: l => x + isum l

theorem nb {W W1 : World} {g : Nat} {o : Obj} {v : Value} (h : Aside0 (W.heap[g]? = some o)) (hn : ∃ b, v.ownBlock = some b ∧ W1.heap.size ≤ b) (e : W.heap[g]? = some o → W1.heap[g]? = some o := by intro h_; (with_reducible repeat (first | exact h_ | refine blk_drewN ?_ _ | refine blk_drew ?_ | refine blk_alloc ?_ _ | refine blk_far ?_ (Aside0.out (by with_reducible assumption)) _))) : Aside0 (some g ≠ v.ownBlock) := by
  obtain ⟨b, h1, h2⟩ := hn
  have := blk_lt (e h.out)
  exact ⟨by rw [h1]; intro hc; injection hc with hc; omega⟩
theorem kg {W W1 W2 : World} {g : Nat} {o : Obj} {row : Option Nat} (h : Aside0 (W.heap[g]? = some o)) (hg : W1.grownBy W2 row) (hne : Aside0 (some g ≠ row)) (e : W.heap[g]? = some o → W1.heap[g]? = some o := by intro h_; (with_reducible repeat (first | exact h_ | refine blk_drewN ?_ _ | refine blk_drew ?_ | refine blk_alloc ?_ _ | refine blk_far ?_ (Aside0.out (by with_reducible assumption)) _))) : Aside0 (W2.heap[g]? = some o) := ⟨blk_grown (e h.out) hg hne.out⟩

theorem n7 {W1 W2 : World} {g : Nat} {v v1 : Value} (h : Aside0 (some g ≠ v.ownBlock)) (hg : W1.grownBy W2 v.ownBlock) (hat : v1.ownBlock = v.ownBlock ∨ ∃ b, v1.ownBlock = some b ∧ W1.heap.size ≤ b) (hlt : Aside0 (g < W1.heap.size)) : Aside0 (some g ≠ v1.ownBlock) := by
  rcases hat with hat | ⟨b, hb, hle⟩
  · exact ⟨by rw [hat]; exact h.out⟩
  · have := hlt.out
    exact ⟨by rw [hb]; intro hc; injection hc with hc; omega⟩
theorem lt7 {W W1 : World} {g : Nat} {o : Obj} (h : Aside0 (W.heap[g]? = some o)) (e : W.heap[g]? = some o → W1.heap[g]? = some o := by intro h_; (with_reducible repeat (first | exact h_ | refine blk_drewN ?_ _ | refine blk_drew ?_ | refine blk_alloc ?_ _ | refine blk_far ?_ (Aside0.out (by with_reducible assumption)) _))) : Aside0 (g < W1.heap.size) := ⟨blk_lt (e h.out)⟩
theorem isum_snoc (l : List Int) (x : Int) : isum (l ++ [x]) = isum l + x := by
  induction l with
  | nil => simp [isum]
  | cons y l ih => simp only [List.cons_append, isum, ih]; omega
theorem isum_take (l : List Int) (k : Nat) (h : k < l.length) : isum (l.take (k + 1)) = isum (l.take k) + rd l k := by
  rw [List.take_succ_eq_append_getElem h, isum_snoc]
  simp [rd, List.getElem?_eq_getElem h]
theorem isum_bd (l : List Int) (h : ∀ x ∈ l, bad x = false) : 0 ≤ isum l ∧ isum l ≤ 1073741824 * l.length := by
  induction l with
  | nil => simp [isum]
  | cons y l ih =>
    have h1 := h y (List.mem_cons_self)
    have h2 := ih (fun x hx => h x (List.mem_cons_of_mem _ hx))
    simp only [bad, Bool.or_eq_false_iff, decide_eq_false_iff_not] at h1
    simp only [isum, List.length_cons]
    omega
theorem isum_take_bd (l : List Int) (h : ∀ x ∈ l, bad x = false) (k : Nat) : 0 ≤ isum (l.take k) ∧ isum (l.take k) ≤ 1073741824 * l.length := by
  have := isum_bd (l.take k) (fun x hx => h x (List.mem_of_mem_take hx))
  have h2 := List.length_take_le k l
  have h3 := List.length_take_le' k l
  omega
theorem rd_good (l : List Int) (h : ∀ x ∈ l, bad x = false) (k : Nat) (hk : k < l.length) : 0 ≤ rd l k ∧ rd l k ≤ 1073741824 := by
  have e : rd l k = l[k] := by simp [rd, List.getElem?_eq_getElem hk]
  have := h l[k] (List.getElem_mem hk)
  simp only [bad, Bool.or_eq_false_iff, decide_eq_false_iff_not] at this
  rw [e]; omega
theorem cells_read {w : World} {A : Option Addr} {xs : List Int} (h : Kd.C (Kd.int .i64) w A xs.length xs) (h0 : 0 < xs.length) : ∃ ad, A = some ad ∧ ∀ i : Nat, i < xs.length → w.cell? (ad.add i) = some (.int .i64 (rd xs i)) := by
  obtain ⟨ad, e, _⟩ := Kd.at_int h 0 (by omega) (by omega)
  refine ⟨ad, e, fun i hi => ?_⟩
  obtain ⟨ad2, e2, hc⟩ := Kd.at_int h i (by omega) (by omega)
  rw [e] at e2
  injection e2 with e2
  rw [e2]
  exact hc

/-- the cells of a row of ints -/
def CO (xs : List Int) : Array Value := (xs.map (Value.int .i64)).toArray
theorem CO_get (xs : List Int) (i : Nat) (h : i < xs.length) : (CO xs)[i]? = some (.int .i64 (rd xs i)) := by
  simp [CO, rd, List.getElem?_eq_getElem h]
theorem CO_set (xs : List Int) (i : Nat) (x : Int) : (CO xs).setIfInBounds i (.int .i64 x) = CO (xs.set i x) := by
  simp [CO, List.map_set]
theorem CO_made (n : Nat) : madeCells (Value.int .i64 0).cells (n * 1) = CO (List.replicate n 0) := by
  apply Array.ext
  · simp [CO, size_madeCells]
  · intro i h1 h2
    have : i % 1 = 0 := Nat.mod_one i
    simp [CO, madeCells, Value.cells, this]

-- (the sort's contract at the row of indices)
theorem blk_two (W : World) (o : Obj) : ((W.alloc o).alloc o).drew.heap[W.heap.size + 1]? = some o := by
  have h := blk_drew (blk_new (W.alloc o) o)
  rw [show (W.alloc o).heap.size = W.heap.size + 1 from Array.size_push _] at h
  exact h
def qs (a0 S : Int) (l : List Int) : List Int := l.map fun x => a0 * x / S
def idx (n : Nat) : List Int := (List.range n).map (fun (k : Nat) => (k : Int))
/-- a row that is filled as far as i -/
def st (xs : List Int) (n i : Nat) : List Int := xs.take i ++ List.replicate (n - i) 0
theorem st_len (xs : List Int) (n i : Nat) (h : xs.length = n) (hi : i ≤ n) : (st xs n i).length = n := by simp [st]; omega
theorem st_zero (xs : List Int) (n : Nat) : st xs n 0 = List.replicate n 0 := by simp [st]
theorem st_all (xs : List Int) (n : Nat) (h : xs.length = n) : st xs n n = xs := by subst h; simp [st]
theorem st_set (xs : List Int) (n i : Nat) (h : xs.length = n) (hi : i < n) : (st xs n i).set i (rd xs i) = st xs n (i + 1) := by
  have hr : rd xs i = xs[i] := by simp [rd, List.getElem?_eq_getElem (show i < xs.length by omega)]
  obtain ⟨m, hm⟩ : ∃ m, n - i = m + 1 := ⟨n - i - 1, by omega⟩
  have hm2 : n - (i + 1) = m := by omega
  unfold st
  rw [hm, hm2, List.replicate_succ, List.set_append_right _ _ (by simp; omega), List.length_take, Nat.min_eq_left (by omega), Nat.sub_self, List.set_cons_zero, hr, List.take_succ_eq_append_getElem (show i < xs.length by omega), List.append_assoc]
  rfl
theorem rd_qs (a0 S : Int) (l : List Int) (i : Nat) (h : i < l.length) : rd (qs a0 S l) i = a0 * rd l i / S := by
  simp [rd, qs, List.getElem?_eq_getElem h]
theorem mem_le_isum (l : List Int) (h : ∀ x ∈ l, bad x = false) (x : Int) (hx : x ∈ l) : x ≤ isum l := by
  induction l with
  | nil => cases hx
  | cons y l ih =>
    have hy := h y List.mem_cons_self
    have h2 := isum_bd l (fun z hz => h z (List.mem_cons_of_mem _ hz))
    simp only [bad, Bool.or_eq_false_iff, decide_eq_false_iff_not] at hy
    simp only [isum]
    rcases List.mem_cons.1 hx with rfl | hx
    · omega
    · have := ih (fun z hz => h z (List.mem_cons_of_mem _ hz)) hx
      omega
theorem quo_bd {a0 S x : Int} (a1 : 0 ≤ a0) (a2 : a0 ≤ 1073741824) (S1 : 1 ≤ S) (x0 : 0 ≤ x) (xS : x ≤ S) : 0 ≤ a0 * x ∧ a0 * x ≤ 1073741824 * S ∧ 0 ≤ a0 * x / S ∧ a0 * x / S ≤ a0 := by
  have h1 : 0 ≤ a0 * x := Int.mul_nonneg a1 x0
  have h2 : a0 * x ≤ a0 * S := Int.mul_le_mul_of_nonneg_left xS a1
  have h3 : a0 * S ≤ 1073741824 * S := Int.mul_le_mul_of_nonneg_right a2 (by omega)
  refine ⟨h1, by omega, Int.ediv_nonneg h1 (by omega), ?_⟩
  have h4 := Int.ediv_le_ediv (show 0 < S by omega) h2
  rw [Int.mul_ediv_cancel _ (by omega)] at h4
  exact h4
theorem qs_good {a0 S : Int} {l : List Int} (a1 : 0 ≤ a0) (a2 : a0 ≤ 1073741824) (S1 : 1 ≤ S) (h : ∀ x ∈ l, bad x = false) (hS : isum l = S) : ∀ q ∈ qs a0 S l, bad q = false := by
  intro q hq
  obtain ⟨x, hx, rfl⟩ := List.mem_map.1 hq
  have hb := h x hx
  simp only [bad, Bool.or_eq_false_iff, decide_eq_false_iff_not] at hb
  have h2 := mem_le_isum l h x hx
  obtain ⟨_, _, h3, h4⟩ := quo_bd a1 a2 S1 (show 0 ≤ x by omega) (show x ≤ S by omega)
  simp only [bad, Bool.or_eq_false_iff, decide_eq_false_iff_not]
  omega
theorem rd_idx (n i : Nat) (h : i < n) : rd (idx n) i = (i : Int) := by
  simp [rd, idx, h]

/-- how the sort compares two indices: by their rests, the greater first -/
def cfF (a0 S : Int) (l : List Int) (m : Nat) (i j : Fin (m + 1)) : Int := a0 * rd l j.val % S - a0 * rd l i.val % S
def encF (m : Nat) (i : Fin (m + 1)) : Value := .int .i64 (i.val : Int)
set_option maxHeartbeats 1000000 in
theorem cmp46 (gT gW gA : Nat) (a0 S x y : Int) (adw : Addr) (c1 n i j : Nat) (W : World) (hT : W.cell? ⟨gT, 0, none⟩ = some (.int .i64 a0)) (hW : W.cell? ⟨gW, 0, none⟩ = some (.slice (some adw) n c1)) (hA : W.cell? ⟨gA, 0, none⟩ = some (.int .i64 S))
    (hi : W.cell? (adw.add i) = some (.int .i64 x)) (hj : W.cell? (adw.add j) = some (.int .i64 y)) (i1 : (i : Int) < (n : Int)) (j1 : (j : Int) < (n : Int)) (a1 : 0 ≤ a0) (a2 : a0 ≤ 1073741824) (x0 : 0 ≤ x) (x1 : x ≤ 1073741824) (y0 : 0 ≤ y) (y1 : y ≤ 1073741824) (S1 : 1 ≤ S) (S2 : S ≤ 107374182400) :
    Calls Tryz.prog 61 #[.int .i64 i, .int .i64 j, .pointer (some ⟨gT, 0, none⟩), .pointer (some ⟨gW, 0, none⟩), .pointer (some ⟨gA, 0, none⟩)] W fun e w' => e = .returned (.int .i64 (a0 * y % S - a0 * x % S)) ∧ ∃ q, w' = W.drewN q := by
  have p0 : 0 ≤ a0 * x := Int.mul_nonneg a1 x0
  have p1 : a0 * x ≤ 1152921504606846976 := by have := Int.mul_le_mul a2 x1 x0 (by omega); omega
  have q0 : 0 ≤ a0 * y := Int.mul_nonneg a1 y0
  have q1 : a0 * y ≤ 1152921504606846976 := by have := Int.mul_le_mul a2 y1 y0 (by omega); omega
  have hS0 : (S == 0) = false := beq_eq_false_iff_ne.mpr (by omega)
  have r0 := Int.emod_nonneg (a0 * x) (show S ≠ 0 by omega)
  have r1 := Int.emod_lt_of_pos (a0 * x) (show 0 < S by omega)
  have u0 := Int.emod_nonneg (a0 * y) (show S ≠ 0 by omega)
  have u1 := Int.emod_lt_of_pos (a0 * y) (show 0 < S by omega)
  go_enter Tryz.func61, Tryz.ntmps61
  go_wp2
  repeat (go_quiet (fail); try go_wp2)
  go_ret
  exact ⟨rfl, _, by first | rfl | exact (World.drewN_drewN _ _ _).symm⟩
theorem putRow_far {α : Type} [Inhabited α] (enc : α → Value) (w : World) (blk off : Nat) (d : Array α) (k : Nat) (h : k ≠ blk) : (putRow enc w blk off d).heap[k]? = w.heap[k]? := by
  have h' : ¬ blk = k := fun e => h e.symm
  simp [putRow, mapBlock, Array.getElem?_modify, h']
theorem putRow_size {α : Type} [Inhabited α] (enc : α → Value) (w : World) (blk off : Nat) (d : Array α) : (putRow enc w blk off d).heap.size = w.heap.size := by
  simp [putRow, mapBlock]
theorem putRow_cell {α : Type} [Inhabited α] (enc : α → Value) (w : World) (blk off : Nat) (d : Array α) (a : Addr) (h : a.block ≠ blk) (m n : Nat) : (((putRow enc w blk off d).drewN m).drewN n).cell? a = w.cell? a := by
  have e := putRow_far enc w blk off d a.block h
  show (putRow enc w blk off d).cell? a = w.cell? a
  simp [World.cell?, e]

theorem swoF (a0 S : Int) (l : List Int) (m : Nat) : SWO (ltC (cfF a0 S l m)) := by
  refine ⟨fun x => ?_, fun x y z h1 h2 => ?_, fun x y z h1 h2 => ?_⟩
  · simp [ltC, cfF]
  · have g1 : cfF a0 S l m x y < 0 := of_decide_eq_true h1
    have g2 : cfF a0 S l m y z < 0 := of_decide_eq_true h2
    exact decide_eq_true (show cfF a0 S l m x z < 0 by unfold cfF at *; omega)
  · have g1 : ¬ cfF a0 S l m x y < 0 := of_decide_eq_false h1
    have g2 : ¬ cfF a0 S l m y z < 0 := of_decide_eq_false h2
    exact decide_eq_false (show ¬ cfF a0 S l m x z < 0 by unfold cfF at *; omega)
/-- the order of the indices behind the sort -/
def ordA (a0 S : Int) (l : List Int) (m : Nat) : Array (Fin (m + 1)) := Sort.insertionSort (ltC (cfF a0 S l m)) (Array.ofFn fun i : Fin (m + 1) => i) 0 (m + 1)
theorem size_inner {α : Type} [Inhabited α] (lt : α → α → Bool) (a : Nat) : ∀ (j : Nat) (d : Array α), (insInner lt a j d).size = d.size
  | 0, d => rfl
  | j + 1, d => by
    unfold insInner
    split
    · rw [size_inner lt a j, size_swp]
    · rfl
theorem size_outer {α : Type} [Inhabited α] (lt : α → α → Bool) (a b : Nat) : ∀ (k i : Nat) (d : Array α), k = b - i → (insOuter lt a b i d).size = d.size
  | 0, i, d, h => by rw [insOuter_stop _ _ _ _ _ (by omega)]
  | k + 1, i, d, h => by rw [insOuter_go _ _ _ _ _ (by omega), size_outer lt a b k (i + 1) _ (by omega), size_inner]
theorem ordA_size (a0 S : Int) (l : List Int) (m : Nat) : (ordA a0 S l m).size = m + 1 := by
  unfold ordA Sort.insertionSort
  rw [size_outer _ 0 (m + 1) _ _ _ rfl]; simp
set_option maxHeartbeats 1000000 in
theorem srt_row (a0 S : Int) (adw : Addr) (c1 : Nat) (l1 : List Int) (m : Nat) (hm : l1.length = m + 1) (W : World) (gT gW gA g10 : Nat)
    (BK10 : Aside0 (W.heap[g10]? = some (.cells (CO (idx l1.length)) 3 (0, 0)))) (BKT : Aside0 (W.heap[gT]? = some (.cells #[.int .i64 a0] 3 (0, 0)))) (BKW : Aside0 (W.heap[gW]? = some (.cells #[.slice (some adw) l1.length c1] 22 (0, 0)))) (BKA : Aside0 (W.heap[gA]? = some (.cells #[.int .i64 S] 3 (0, 0))))
    (hcw : ∀ i : Nat, i < l1.length → W.cell? (adw.add i) = some (.int .i64 (rd l1 i))) (NT : Aside0 (gT ≠ g10)) (NW : Aside0 (gW ≠ g10)) (NA : Aside0 (gA ≠ g10)) (ND : Aside0 (adw.block ≠ g10)) (hg : ∀ x ∈ l1, bad x = false) (a1 : 0 ≤ a0) (a2 : a0 ≤ 1073741824) (S1 : 1 ≤ S) (S2 : S ≤ 107374182400) (h20 : l1.length ≤ 100) :
    Calls Tryz.prog 60 #[.slice (some ⟨g10, 0, none⟩) l1.length l1.length, .func (.func 61) #[] #[.pointer (some ⟨gT, 0, none⟩), .pointer (some ⟨gW, 0, none⟩), .pointer (some ⟨gA, 0, none⟩)]] W fun e w' => e = .returned (.tuple #[]) ∧
      w'.heap[g10]? = some (.cells (CO ((ordA a0 S l1 m).toList.map fun i => (i.val : Int))) 3 (0, 0)) ∧ (∀ k, k ≠ g10 → w'.heap[k]? = W.heap[k]?) ∧ (∀ B w0, Below B w0 W → B ≤ g10 → Below B w0 w') := by
  have hd : (Array.ofFn fun i : Fin (m + 1) => i).size = l1.length := by simp [hm]
  have hadd : ∀ j, (adw.add j).block = adw.block := fun j => by unfold Addr.add; split <;> rfl
  have hcmp : CmpR #[.pointer (some ⟨gT, 0, none⟩), .pointer (some ⟨gW, 0, none⟩), .pointer (some ⟨gA, 0, none⟩)] (encF m) (cfF a0 S l1 m) g10 0 (Array.ofFn fun i : Fin (m + 1) => i).size W := by
    intro dk hdk i j p q
    have gi := rd_good l1 hg i.val (by omega)
    have gj := rd_good l1 hg j.val (by omega)
    exact cmp46 gT gW gA a0 S (rd l1 i.val) (rd l1 j.val) adw c1 l1.length i.val j.val _
      ((putRow_cell (encF m) W g10 0 dk _ NT.out p q).trans ((blk_cell BKT.out 0).trans rfl))
      ((putRow_cell (encF m) W g10 0 dk _ NW.out p q).trans ((blk_cell BKW.out 0).trans rfl))
      ((putRow_cell (encF m) W g10 0 dk _ NA.out p q).trans ((blk_cell BKA.out 0).trans rfl))
      ((putRow_cell (encF m) W g10 0 dk _ (by rw [hadd]; exact ND.out) p q).trans (hcw i.val (by omega)))
      ((putRow_cell (encF m) W g10 0 dk _ (by rw [hadd]; exact ND.out) p q).trans (hcw j.val (by omega)))
      (by omega) (by omega) a1 a2 gi.1 gi.2 gj.1 gj.2 S1 S2
  have hH : Holds (encF m) W g10 0 (Array.ofFn fun i : Fin (m + 1) => i) := by
    intro j hj
    have hj' : j < m + 1 := by simpa using hj
    refine ⟨?_, blk_frozen BK10.out _⟩
    rw [Nat.zero_add, getElem!_pos (Array.ofFn fun i : Fin (m + 1) => i) j hj]
    refine (blk_cell BK10.out j).trans ((CO_get _ _ (by simp [idx]; omega)).trans ?_)
    rw [rd_idx _ _ (by omega)]
    simp [encF]
  have h := sortStableAny (encF m) (fun _ => rfl) (cfF a0 S l1 m) (fun i => i.val) (swoF a0 S l1 m) (fun x y h => Fin.ext h) _ g10 0 l1.length (Array.ofFn fun i : Fin (m + 1) => i) W (fun p hp => by rw [getElem!_pos _ p hp]; simp) hcmp hH (by omega)
  rw [hd] at h
  refine h.mono fun e w' ⟨he, q, hw⟩ => ⟨he, ?_, ?_, ?_⟩
  · subst hw
    have ho : Sort.insertionSort (ltC (cfF a0 S l1 m)) (Array.ofFn fun i : Fin (m + 1) => i) 0 l1.length = ordA a0 S l1 m := by rw [hm]; rfl
    rw [ho]
    show (putRow (encF m) W g10 0 (ordA a0 S l1 m)).heap[g10]? = _
    have hs := ordA_size a0 S l1 m
    simp only [putRow, mapBlock, Array.getElem?_modify, if_true, BK10.out, Option.map_some, onCells, Option.some.injEq]
    congr 1
    apply Array.ext
    · simp [putCells, CO, idx, hs, hm]
    · intro i h1 h2
      have h3 : i < m + 1 := by simpa [CO, hs] using h2
      have h4 : i < (ordA a0 S l1 m).size := by omega
      simp [putCells, CO, encF, hs, h3]
  · intro k hk
    subst hw
    exact putRow_far (encF m) W g10 0 _ k hk
  · intro B w0 hB hle
    subst hw
    exact ⟨hB.os, hB.tape, hB.output, Nat.le_trans hB.size (Nat.le_of_eq (putRow_size (encF m) W g10 0 _).symm), fun i hi => (putRow_far (encF m) W g10 0 _ i (by omega)).trans (hB.block i hi)⟩

theorem left_eq (a0 S : Int) (S1 : 1 ≤ S) (l : List Int) : ∃ R, a0 * isum l = S * isum (qs a0 S l) + R ∧ 0 ≤ R ∧ R ≤ (l.length : Int) * (S - 1) := by
  induction l with
  | nil => exact ⟨0, by simp [isum, qs], by omega, by simp⟩
  | cons x l ih =>
    obtain ⟨R, h1, h2, h3⟩ := ih
    have e := Int.mul_ediv_add_emod (a0 * x) S
    have r0 := Int.emod_nonneg (a0 * x) (show S ≠ 0 by omega)
    have r1 := Int.emod_lt_of_pos (a0 * x) (show 0 < S by omega)
    refine ⟨a0 * x % S + R, ?_, by omega, ?_⟩
    · simp only [isum, qs, List.map_cons] at h1 ⊢
      rw [Int.mul_add, Int.mul_add, h1]
      omega
    · have : ((x :: l).length : Int) * (S - 1) = (l.length : Int) * (S - 1) + (S - 1) := by
        rw [List.length_cons]; push_cast; rw [Int.add_mul, Int.one_mul]
      omega
theorem left_bd {a0 S : Int} {l : List Int} (S1 : 1 ≤ S) (hS : isum l = S) (hpos : 0 < l.length) : 0 ≤ a0 - isum (qs a0 S l) ∧ a0 - isum (qs a0 S l) < l.length := by
  obtain ⟨R, h1, h2, h3⟩ := left_eq a0 S S1 l
  rw [hS] at h1
  have h4 : S * (a0 - isum (qs a0 S l)) = R := by rw [Int.mul_sub, Int.mul_comm S a0]; omega
  constructor
  · rcases Int.lt_or_le (a0 - isum (qs a0 S l)) 0 with h | h
    · have : S * (a0 - isum (qs a0 S l)) ≤ S * (-1) := Int.mul_le_mul_of_nonneg_left (by omega) (by omega)
      omega
    · exact h
  · rcases Int.lt_or_le (a0 - isum (qs a0 S l)) l.length with h | h
    · exact h
    · have h5 : S * (l.length : Int) ≤ S * (a0 - isum (qs a0 S l)) := Int.mul_le_mul_of_nonneg_left h (by omega)
      have h6 : (l.length : Int) * (S - 1) = S * (l.length : Int) - l.length := by rw [Int.mul_sub, Int.mul_one, Int.mul_comm]
      omega
/-- one more at each of some places -/
def incs (out : List Int) (ks : List Nat) : List Int := ks.foldl (fun o k => o.set k (rd o k + 1)) out
theorem incs_len (ks : List Nat) : ∀ out : List Int, (incs out ks).length = out.length := by
  induction ks with
  | nil => intro out; rfl
  | cons k ks ih => intro out; simp only [incs, List.foldl_cons]; rw [show List.foldl (fun o k => o.set k (rd o k + 1)) (out.set k (rd out k + 1)) ks = incs (out.set k (rd out k + 1)) ks from rfl, ih]; simp
theorem incs_snoc (ks : List Nat) (k : Nat) (out : List Int) : incs out (ks ++ [k]) = (incs out ks).set k (rd (incs out ks) k + 1) := by
  simp [incs, List.foldl_append]
theorem rd_set (o : List Int) (k j : Nat) (x : Int) : rd (o.set k x) j = if k = j ∧ k < o.length then x else rd o j := by
  simp only [rd, Int.toNat_natCast, List.getD_eq_getElem?_getD, List.getElem?_set]
  by_cases h : k = j
  · subst h
    by_cases h2 : k < o.length
    · simp [h2]
    · simp [h2]
  · simp [h]
theorem incs_bd (out : List Int) (h : ∀ j : Nat, 0 ≤ rd out j ∧ rd out j ≤ 1073741824) (ks : List Nat) : ∀ n : Nat, ∀ j : Nat, 0 ≤ rd (incs out (ks.take n)) j ∧ rd (incs out (ks.take n)) j ≤ 1073741824 + n := by
  intro n
  induction n with
  | zero => intro j; have := h j; simp only [List.take_zero, incs, List.foldl_nil]; omega
  | succ n ih =>
    intro j
    by_cases hn : n < ks.length
    · rw [List.take_succ_eq_append_getElem hn, incs_snoc, rd_set]
      have h1 := ih j
      have h2 := ih ks[n]
      split <;> omega
    · have e : ks.take (n + 1) = ks.take n := by rw [List.take_of_length_le (by omega), List.take_of_length_le (by omega)]
      rw [e]; have := ih j; omega
theorem rd_any (l : List Int) (h : ∀ x ∈ l, bad x = false) (j : Nat) : 0 ≤ rd l j ∧ rd l j ≤ 1073741824 := by
  by_cases hj : j < l.length
  · exact rd_good l h j hj
  · have : rd l j = 0 := by simp [rd, List.getElem?_eq_none (show l.length ≤ j by omega)]
    omega
def ordL (a0 : Int) (l1 : List Int) : List Nat := (ordA a0 (isum l1) l1 (l1.length - 1)).toList.map Fin.val
/-- the parts -/
def apOut (a0 : Int) (l1 : List Int) : List Int := incs (qs a0 (isum l1) l1) ((ordL a0 l1).take (a0 - isum (qs a0 (isum l1) l1)).toNat)
theorem ordL_len (a0 : Int) (l1 : List Int) (h : 0 < l1.length) : (ordL a0 l1).length = l1.length := by
  simp [ordL, ordA_size]; omega
theorem ordL_lt (a0 : Int) (l1 : List Int) (h : 0 < l1.length) (k : Nat) (hk : k ∈ ordL a0 l1) : k < l1.length := by
  simp only [ordL, List.mem_map] at hk
  obtain ⟨i, _, rfl⟩ := hk
  have := i.isLt
  omega
theorem rowOf {W : World} {base g n : Nat} {xs : List Int} (h : W.heap[g]? = some (.cells (CO xs) 3 (0, 0))) (hb : base ≤ g) (hn : xs.length = n) (hm : n ≤ 100) : Kd.R (Kd.int .i64) 3 W base (fun _ => True) (.slice (some ⟨g, 0, none⟩) n n) xs := by
  subst hn
  refine Kd.R_of_own ⟨by simp [encs], .inr ⟨g, xs.length, CO xs, rfl, hb, h, Nat.le_refl _, by unfold maxLen; omega, by simp [CO], by rw [List.take_of_length_le (by simp [CO])]; simp [CO, encs]⟩⟩ (fun _ _ => trivial)

set_option maxHeartbeats 1000000 in
set_option maxRecDepth 100000 in
theorem ap_first (a0 : Int) (adw : Addr) (c1 : Nat) (l1 : List Int) (w : World) (hr1 : Kd.C (Kd.int .i64) w (some adw) l1.length l1) (hcw : ∀ i : Nat, i < l1.length → w.cell? (adw.add i) = some (.int .i64 (rd l1 i))) (hc1 : l1.length ≤ c1) (hl : l1.length ≤ 100) (h20 : l1.length ≤ 100) (hgood : ∀ x ∈ a0 :: l1, bad x = false) (hS : isum l1 ≠ 0) :
    Calls Tryz.prog 34 #[.int .i64 a0, .slice (some adw) l1.length c1] w fun e w' => ∃ v0_ : Value, e = .returned (.tuple #[v0_, .int .i64 0]) ∧ Kd.R (Kd.int .i64) 3 w' w.heap.size (fun _ => True) v0_ (apOut a0 l1) ∧ Below w.heap.size w w' := by
  have HB := Aside0.mk (Below.refl w.heap.size w)
  have HR := Aside0.mk hr1
  have HCW := Aside0.mk hcw
  have HL := Aside0.mk hl
  have HL20 := Aside0.mk h20
  have HG := Aside0.mk hgood
  have HS := Aside0.mk hS
  have c100 : decide (100 < (l1.length : Int)) = false := decide_eq_false (by omega)
  have c100b : decide (100 < l1.length) = false := decide_eq_false (by omega)
  clear hr1 hcw hl h20 hgood hS
  go_enter Tryz.func34, Tryz.ntmps34
  go_wp2_with (first | ((with_reducible refine gate_dst (N := 2) rfl ?_); refine box_event ?hg (N := 2) ?hd (cs := #[.int .i64 a0]) (t := 3) ?hr ?_; (case hd => rfl); (case hg => rfl); (case hr => first | (go_simp; done) | (go_simp; rfl)); intro gT hg w3 hbox hb; have BKT := Aside0.mk hbox; have GWT := gs HB hg; replace HB := wb HB hb; clear hb hbox hg) | ((with_reducible refine gate_dst (N := 3) rfl ?_); refine box_event ?hg (N := 3) ?hd (cs := #[.slice (some adw) l1.length c1]) (t := 22) ?hr ?_; (case hd => rfl); (case hg => rfl); (case hr => first | (go_simp; done) | (go_simp; rfl)); intro gW hg w4 hbox hb; have BKW := Aside0.mk hbox; have GWW := gs HB hg; have NTW := nl BKT hg; replace BKT := kb BKT hb; replace HB := wb HB hb; clear hb hbox hg; have hcT : w4.cell? ⟨gT, 0, none⟩ = some (.int .i64 a0) := (blk_cell BKT.out 0).trans rfl; have hcW : w4.cell? ⟨gW, 0, none⟩ = some (.slice (some adw) l1.length c1) := (blk_cell BKW.out 0).trans rfl) | ((with_reducible refine gate_dst (N := 6) rfl ?_); refine box_event ?hg (N := 6) ?hd (cs := #[.int .i64 0]) (t := 3) ?hr ?_; (case hd => rfl); (case hg => rfl); (case hr => first | (go_simp; done) | (go_simp; rfl)); intro gA hg w5 hbox hb; have BKA := Aside0.mk hbox; have GWA := gs HB hg; have NTA := nl BKT hg; have NWA := nl BKW hg; replace BKT := kb BKT hb; replace BKW := kb BKW hb; replace HB := wb HB hb; clear hb hbox hg hcT hcW; have hcT : w5.cell? ⟨gT, 0, none⟩ = some (.int .i64 a0) := (blk_cell BKT.out 0).trans rfl; have hcW : w5.cell? ⟨gW, 0, none⟩ = some (.slice (some adw) l1.length c1) := (blk_cell BKW.out 0).trans rfl; have hcA : w5.cell? ⟨gA, 0, none⟩ = some (.int .i64 0) := (blk_cell BKA.out 0).trans rfl; have hfA := blk_frozen BKA.out 0; obtain ⟨hnTA, hnAT⟩ := n2 NTA; obtain ⟨hnWA, hnAW⟩ := n2 NWA) | ((with_reducible refine gate_dst (N := 20) rfl ?_); refine Kd.R_lit (Kd.int .i64) _ 3 ?hg (N := 20) ?hd (xs := ([a0] : List Int)) (inner := [.int .i64 a0]) (ok := fun _ => True) (okp := fun _ => True) ?hr ?hp (fun _ hk => hk) trivial (Below.refl _ _) (Nat.le_refl _) (by simp) ?_; (case hd => rfl); (case hg => rfl); (case hr => first | (go_simp; done) | (go_simp; rfl)); (case hp => exact (Reps.one (show Kd.M (Kd.int .i64) _ _ _ a0 [.int .i64 a0] from rfl) (Reps.none _ _))); intro v6 w6 ho hb hg_ hnew_; have HO := Aside0.mk (Kd.R_lower ho (below_size (bw HB))); have NOT := nb BKT hnew_; have NOW := nb BKW hnew_; have NOA := nb (g := gA) (o := .cells #[.int .i64 0] 3 (0, 0)) (W := w5.setCell ⟨gA, 0, none⟩ (.int .i64 0)) ⟨by refine blk_put (cs := #[.int .i64 0]) ?_ 0 _ rfl; exact BKA.out⟩ hnew_; replace BKA := Aside0.mk (blk_below (g := gA) (o := .cells #[.int .i64 0] 3 (0, 0)) (by refine pe ?_; refine blk_put (cs := #[.int .i64 0]) ?_ 0 _ rfl; exact BKA.out) hb); replace BKT := kb BKT hb; replace BKW := kb BKW hb; replace HB := wb HB hb; clear hb ho hg_ hnew_ hcT hcW hcA hfA; have hcW : w6.cell? ⟨gW, 0, none⟩ = some (.slice (some adw) l1.length c1) := (blk_cell BKW.out 0).trans rfl) | ((with_reducible refine gate_builtin (b := .append) (xs := #[.tmp 20, .tmp 21]) rfl ?_); at_builtin; refine Kd.R_append_rows (Kd.int .i64) w.heap.size rfl (.tmp 20) (.tmp 21) 22 3 (.int .i64 0) 8 rfl Tryz.underlying22 infoI rfl (by decide) (by omega) v6 ([a0] : List Int) l1 _ _ _ (fun _ => True) (fun _ => False) rfl rfl ?aO ?aR (fun _ _ h => h) (fun _ h => h.elim) (fun _ _ => trivial) (Below.refl _ _) ?aS ?aL ?_; (case aR => exact Kd.C_below HR.out (bw HB)); (case aO => exact HO.out); (case aS => exact below_size (bw HB)); (case aL => have := HL.out; simp; omega); have LTA := lt7 (W1 := w6) BKA; intro v7 w7 ho hb hg hat; replace BKT := kg BKT hg NOT; replace BKW := kg BKW hg NOW; replace BKA := kg BKA hg NOA; replace HB := Aside0.mk (pw_below_grown (bw HB) _ (below_size (bw HB)) hg (Kd.R_base HO.out)); have NOA7 := n7 NOA hg hat LTA; clear HO; have HO := Aside0.mk ho; clear ho hb hg hat hcW NOT NOW NOA LTA; obtain ⟨Ao, co, eo⟩ := Kd.R_slice HO.out; subst eo; obtain ⟨ad, hAo, hcells⟩ := cells_read (Kd.R_reads' HO.out).2.2 (by simp); subst hAo; have NAD : Aside0 (ad.block ≠ gA) := ⟨fun h => NOA7.out (by simp [Value.ownBlock, h])⟩; have HC7 := Aside0.mk hcells; clear hcells HO NOA7))
  go_loopg [8, 24] (l1.length + 1) (fun gk v8 v24 wr => ∃ (i : Nat) (z : Value), v8 = z ∧ v24 = .int .i64 i ∧ i ≤ l1.length + 1 ∧ l1.length + 1 - i ≤ gk ∧ Aside0 (wr.heap[gA]? = some (.cells #[.int .i64 (isum ((a0 :: l1).take i))] 3 (0, 0))) ∧ Aside0 (wr.heap[gT]? = some (.cells #[.int .i64 a0] 3 (0, 0))) ∧ Aside0 (wr.heap[gW]? = some (.cells #[.slice (some adw) l1.length c1] 22 (0, 0))) ∧ Aside0 (∀ i : Nat, i < ([a0] ++ l1).length → wr.cell? (ad.add i) = some (.int .i64 (rd ([a0] ++ l1) i))) ∧ Aside0 (Below w.heap.size w wr))
  case atStart => exact ⟨0, _, rfl, by go_num, by omega, by omega, BKA, BKT, BKW, HC7, HB⟩
  case round =>
    obtain ⟨i, z, rfl, rfl, hi, hgk, BKA, BKT, BKW, HCi, HB⟩ := hrel
    by_cases hlt : i < l1.length + 1
    · have hlz : (i : Int) < (l1.length : Int) + 1 := by omega
      have hlzb : decide ((i : Int) < (l1.length : Int) + 1) = true := decide_eq_true hlz
      have hci := HCi.out i (by simpa using hlt)
      have i101 : (i : Int) ≤ 101 := by have := HL.out; omega
      have hxb := rd_good ([a0] ++ l1) HG.out i (by simpa using hlt)
      have hsb := isum_take_bd ([a0] ++ l1) HG.out i
      have hsn := isum_take ([a0] ++ l1) i (by simpa using hlt)
      rw [show (a0 :: l1) = [a0] ++ l1 from rfl] at BKA
      obtain ⟨x, hx⟩ : ∃ x, rd ([a0] ++ l1) i = x := ⟨_, rfl⟩
      obtain ⟨s, hs⟩ : ∃ s, isum (([a0] ++ l1).take i) = s := ⟨_, rfl⟩
      rw [hx] at hci hxb hsn
      rw [hs] at BKA hsb hsn
      have HSN := Aside0.mk hsn
      clear hx hs hsn
      have x0 : decide (x < 0) = false := decide_eq_false (by omega)
      have x1 : decide (1073741824 < x) = false := decide_eq_false (by omega)
      obtain ⟨xb0, xb1⟩ := hxb
      have sb0 := hsb.1
      have sb1 : s ≤ 1073741824 * 101 := by have := hsb.2; have := HL.out; simp only [List.length_append, List.length_cons, List.length_nil] at hsb; omega
      clear hsb
      have hcA : wr.cell? ⟨gA, 0, none⟩ = some (.int .i64 s) := (blk_cell BKA.out 0).trans rfl
      have hfA := blk_frozen BKA.out 0
      go_wp2
      go_roundg (l1.length - i)
      case measure => omega
      case rel => exact ⟨i + 1, _, rfl, by go_num, by omega, by omega, ⟨by rw [show (a0 :: l1) = [a0] ++ l1 from rfl, HSN.out]; exact blk_put (cs := #[.int .i64 s]) BKA.out 0 _ rfl⟩, ⟨bq BKT⟩, ⟨bq BKW⟩, ⟨fun j hj => (cell_far (p := ⟨gA, 0, none⟩) (a := ad.add j) (by rw [show (ad.add j).block = ad.block from by unfold Addr.add; split <;> rfl]; exact NAD.out) _).trans (HCi.out j hj)⟩, ⟨bw HB⟩⟩
    · have hlz : ¬ (i : Int) < (l1.length : Int) + 1 := by omega
      have hlzb : decide ((i : Int) < (l1.length : Int) + 1) = false := decide_eq_false hlz
      have hil : i = (a0 :: l1).length := by simp only [List.length_cons]; omega
      rw [hil, List.take_length] at BKA
      clear hil HCi NAD HC7
      have hsb := isum_bd (a0 :: l1) HG.out
      have hl1 := isum_bd l1 (fun x hx => HG.out x (List.mem_cons_of_mem _ hx))
      have ha := HG.out a0 List.mem_cons_self
      simp only [bad, Bool.or_eq_false_iff, decide_eq_false_iff_not] at ha
      simp only [isum] at BKA hsb
      have HS2 := HS.out
      obtain ⟨S, hSe⟩ : ∃ S, isum l1 = S := ⟨_, rfl⟩
      rw [hSe] at BKA hsb hl1 HS2
      have S1 : 1 ≤ S := by omega
      have S2 : S ≤ 1073741824 * 100 := by have := HL.out; omega
      have a1 : 0 ≤ a0 := by omega
      have a2 : a0 ≤ 1073741824 := by omega
      have hS0 : (S == 0) = false := beq_eq_false_iff_ne.mpr HS2
      have hsub : a0 + S - a0 = S := by omega
      have HSE := Aside0.mk hSe
      clear hSe hsb hl1 ha HS2 HS
      have hcA : wr.cell? ⟨gA, 0, none⟩ = some (.int .i64 (a0 + S)) := (blk_cell BKA.out 0).trans rfl
      have hfA := blk_frozen BKA.out 0
      have hcT : wr.cell? ⟨gT, 0, none⟩ = some (.int .i64 a0) := (blk_cell BKT.out 0).trans rfl
      have hcW : wr.cell? ⟨gW, 0, none⟩ = some (.slice (some adw) l1.length c1) := (blk_cell BKW.out 0).trans rfl
      go_wp2
      replace BKA : Aside0 ((wr.setCell ⟨gA, 0, none⟩ (.int .i64 S)).heap[gA]? = some (.cells #[.int .i64 S] 3 (0, 0))) := ⟨blk_put (cs := #[.int .i64 (a0 + S)]) BKA.out 0 _ rfl⟩
      replace BKT : Aside0 ((wr.setCell ⟨gA, 0, none⟩ (.int .i64 S)).heap[gT]? = some (.cells #[.int .i64 a0] 3 (0, 0))) := ⟨bq BKT⟩
      replace BKW : Aside0 ((wr.setCell ⟨gA, 0, none⟩ (.int .i64 S)).heap[gW]? = some (.cells #[.slice (some adw) l1.length c1] 22 (0, 0))) := ⟨bq BKW⟩
      replace HB : Aside0 (Below w.heap.size w (wr.setCell ⟨gA, 0, none⟩ (.int .i64 S))) := ⟨bw HB⟩
      clear hcA hfA hcT hcW
      generalize wr.setCell ⟨gA, 0, none⟩ (.int .i64 S) = w8 at BKA BKT BKW HB ⊢
      have hcW : w8.cell? ⟨gW, 0, none⟩ = some (.slice (some adw) l1.length c1) := (blk_cell BKW.out 0).trans rfl
      go_cut [9, 10] (fun v9 v10 wc => ∃ g9 g10 : Nat, v9 = .slice (some ⟨g9, 0, none⟩) l1.length l1.length ∧ v10 = .slice (some ⟨g10, 0, none⟩) l1.length l1.length ∧ Aside0 (wc.heap[g9]? = some (.cells (CO (List.replicate l1.length 0)) 3 (0, 0))) ∧ Aside0 (wc.heap[g10]? = some (.cells (CO (List.replicate l1.length 0)) 3 (0, 0))) ∧ Aside0 (g9 ≠ g10) ∧ Aside0 (gA ≠ g9) ∧ Aside0 (gT ≠ g9) ∧ Aside0 (gW ≠ g9) ∧ Aside0 (gA ≠ g10) ∧ Aside0 (gT ≠ g10) ∧ Aside0 (gW ≠ g10) ∧ Aside0 (w.heap.size ≤ g9) ∧ Aside0 (w.heap.size ≤ g10) ∧ Aside0 (wc.heap[gA]? = some (.cells #[.int .i64 S] 3 (0, 0))) ∧ Aside0 (wc.heap[gT]? = some (.cells #[.int .i64 a0] 3 (0, 0))) ∧ Aside0 (wc.heap[gW]? = some (.cells #[.slice (some adw) l1.length c1] 22 (0, 0))) ∧ Aside0 (Below w.heap.size w wc))
      case first =>
        obtain ⟨i0, hi0, hz0⟩ := Option.map_eq_some_iff.1 infoI
        simp only [Prod.mk.injEq] at hz0
        obtain ⟨hz1, hz2, hz3⟩ := hz0
        obtain ⟨CC, hCC⟩ : ∃ CC, madeCells (Value.int .i64 0).cells (l1.length * 1) = CC := ⟨_, rfl⟩
        have hmk : ∀ W : World, (Instr.makeSlice 22 (.int .i64 (l1.length : Int)) (.int .i64 (l1.length : Int))).run Tryz.prog W = .ok (.slice (some ⟨W.heap.size, 0, none⟩) l1.length l1.length) (W.alloc (.cells CC 3)) := fun W => by
          have h := run_make (P := Tryz.prog) W 22 3 i0 (.int .i64 0) Tryz.underlying22 hi0 hz1 .i64 .i64 (l1.length : Int) (l1.length : Int) (by omega) (by omega) (by rw [hz3]; have := HL.out; omega) (by have := HL.out; omega)
          rw [hz2, Int.toNat_natCast, hCC] at h
          exact h
        rw [CO_made] at hCC
        have HCC := Aside0.mk hCC
        have lA := blk_lt BKA.out
        have lT := blk_lt BKT.out
        have lW := blk_lt BKW.out
        have lB := below_size HB.out
        clear hi0 hz1 hz2 hz3 hCC
        have hcWa : ∀ o : Obj, (w8.alloc o).cell? ⟨gW, 0, none⟩ = some (.slice (some adw) l1.length c1) := fun o => (blk_cell (blk_alloc BKW.out o) 0).trans rfl
        go_big_region
        all_goals (go_wp2; go_meet)
        all_goals (rw [HCC.out])
        · exact ⟨w8.heap.size, w8.heap.size + 1, rfl, rfl, ⟨blk_drew (blk_alloc (blk_new w8 _) _)⟩, ⟨blk_two w8 _⟩, ⟨by omega⟩, ⟨by omega⟩, ⟨by omega⟩, ⟨by omega⟩, ⟨by omega⟩, ⟨by omega⟩, ⟨by omega⟩, ⟨lB⟩, ⟨by omega⟩, ⟨bq BKA⟩, ⟨bq BKT⟩, ⟨bq BKW⟩, ⟨bw HB⟩⟩
        · exact ⟨w8.heap.size + 1, w8.heap.size, rfl, rfl, ⟨blk_two w8 _⟩, ⟨blk_drew (blk_alloc (blk_new w8 _) _)⟩, ⟨by omega⟩, ⟨by omega⟩, ⟨by omega⟩, ⟨by omega⟩, ⟨by omega⟩, ⟨by omega⟩, ⟨by omega⟩, ⟨by omega⟩, ⟨lB⟩, ⟨bq BKA⟩, ⟨bq BKT⟩, ⟨bq BKW⟩, ⟨bw HB⟩⟩
      case rest =>
        clear hcW BKA BKT BKW HB
        obtain ⟨g9, g10, rfl, rfl, BK9, BK10, N910, NA9, NT9, NW9, NA10, NT10, NW10, GE9, GE10, BKA, BKT, BKW, HB⟩ := hcut
        have hcT : wc.cell? ⟨gT, 0, none⟩ = some (.int .i64 a0) := (blk_cell BKT.out 0).trans rfl
        have hcW : wc.cell? ⟨gW, 0, none⟩ = some (.slice (some adw) l1.length c1) := (blk_cell BKW.out 0).trans rfl
        go_wp2
        clear hcT hcW
        go_loopg [11, 12, 13, 52] l1.length (fun gk v11 v12 v13 v52 wr => ∃ (i : Nat) (z12 z13 : Value), v12 = z12 ∧ v13 = z13 ∧ v52 = .int .i64 i ∧ v11 = .int .i64 (a0 - isum ((qs a0 S l1).take i)) ∧ i ≤ l1.length ∧ l1.length - i ≤ gk ∧ Aside0 (wr.heap[g9]? = some (.cells (CO (st (qs a0 S l1) l1.length i)) 3 (0, 0))) ∧ Aside0 (wr.heap[g10]? = some (.cells (CO (st (idx l1.length) l1.length i)) 3 (0, 0))) ∧ Aside0 (wr.heap[gA]? = some (.cells #[.int .i64 S] 3 (0, 0))) ∧ Aside0 (wr.heap[gT]? = some (.cells #[.int .i64 a0] 3 (0, 0))) ∧ Aside0 (wr.heap[gW]? = some (.cells #[.slice (some adw) l1.length c1] 22 (0, 0))) ∧ Aside0 (Below w.heap.size w wr))
        case atStart => exact ⟨0, _, _, rfl, rfl, by go_num, by simp [isum], by omega, by omega, ⟨by rw [st_zero]; exact BK9.out⟩, ⟨by rw [st_zero]; exact BK10.out⟩, BKA, BKT, BKW, HB⟩
        case round =>
          clear BKA BKT BKW HB BK9 BK10
          obtain ⟨i, z12, z13, rfl, rfl, rfl, rfl, hi, hgk, BK9, BK10, BKA, BKT, BKW, HB⟩ := hrel
          by_cases hlt : i < l1.length
          · have hlz : (i : Int) < (l1.length : Int) := by omega
            have hlzb : decide ((i : Int) < (l1.length : Int)) = true := decide_eq_true hlz
            have hgl : ∀ x ∈ l1, bad x = false := fun x hx => HG.out x (List.mem_cons_of_mem _ hx)
            have hgq := qs_good a1 a2 S1 hgl HSE.out
            have hsb := isum_take_bd (qs a0 S l1) hgq i
            have hln : (qs a0 S l1).length = l1.length := by simp [qs]
            have hsn := isum_take (qs a0 S l1) i (by omega)
            have hxm := rd_good l1 hgl i hlt
            have hxS : rd l1 i ≤ S := by
              have e : rd l1 i = l1[i] := by simp [rd, List.getElem?_eq_getElem hlt]
              rw [e, ← HSE.out]; exact mem_le_isum l1 hgl _ (List.getElem_mem hlt)
            have hst9 := st_set (qs a0 S l1) l1.length i hln hlt
            have hst10 := st_set (idx l1.length) l1.length i (by simp [idx]) hlt
            rw [rd_qs _ _ _ _ hlt] at hsn hst9
            rw [rd_idx _ _ hlt] at hst10
            have hcw0 := HCW.out i hlt
            have hcw := (HB.out.cell (World.block_lt_of_cell? w _ hcw0)).trans hcw0
            clear hcw0
            obtain ⟨x, hx⟩ : ∃ x, rd l1 i = x := ⟨_, rfl⟩
            obtain ⟨s, hs⟩ : ∃ s, isum ((qs a0 S l1).take i) = s := ⟨_, rfl⟩
            rw [hx] at hsn hst9 hxm hxS hcw
            rw [hs] at hsb hsn ⊢
            obtain ⟨p0, p1, p2, p3⟩ := quo_bd a1 a2 S1 hxm.1 hxS
            have p4 : a0 * x ≤ 1152921504606846976 := by have := Int.mul_le_mul a2 hxm.2 hxm.1 (by omega); omega
            have s0 := hsb.1
            have s1 : s ≤ 1073741824 * 100 := by have := hsb.2; have := HL.out; omega
            obtain ⟨x0, x1⟩ := hxm
            have HSN := Aside0.mk hsn
            have HS9 := Aside0.mk hst9
            have HS10 := Aside0.mk hst10
            have i100 : (i : Int) ≤ 100 := by have := HL.out; omega
            clear hx hs hsn hst9 hst10 hsb hln hgq hgl p1
            have hcT : wr.cell? ⟨gT, 0, none⟩ = some (.int .i64 a0) := (blk_cell BKT.out 0).trans rfl
            have hcA : wr.cell? ⟨gA, 0, none⟩ = some (.int .i64 S) := (blk_cell BKA.out 0).trans rfl
            have hc9 : wr.cell? ⟨g9, i, none⟩ = some (.int .i64 (rd (st (qs a0 S l1) l1.length i) i)) := (blk_cell BK9.out i).trans (CO_get _ _ (by rw [st_len _ _ _ (by simp [qs]) (by omega)]; omega))
            have hc10 : wr.cell? ⟨g10, i, none⟩ = some (.int .i64 (rd (st (idx l1.length) l1.length i) i)) := (blk_cell BK10.out i).trans (CO_get _ _ (by rw [st_len _ _ _ (by simp [idx]) (by omega)]; omega))
            have hf9 := blk_frozen BK9.out i
            have hf10 := blk_frozen BK10.out i
            obtain ⟨n1_, n1'_⟩ := n2 N910
            go_wp2
            go_roundg (l1.length - (i + 1))
            case measure => omega
            case rel => exact ⟨i + 1, _, _, rfl, rfl, by go_num, by rw [HSN.out]; congr 1; omega, by omega, Nat.le_refl _, ⟨blk_far (blk_put (cs := CO (st (qs a0 S l1) l1.length i)) BK9.out i _ (by rw [CO_set, HS9.out])) N910.out _⟩, ⟨blk_put (cs := CO (st (idx l1.length) l1.length i)) (blk_far BK10.out (Ne.symm N910.out) _) i _ (by rw [CO_set, HS10.out])⟩, ⟨bq BKA⟩, ⟨bq BKT⟩, ⟨bq BKW⟩, ⟨bw HB⟩⟩
          · have hlz : ¬ (i : Int) < (l1.length : Int) := by omega
            have hlzb : decide ((i : Int) < (l1.length : Int)) = false := decide_eq_false hlz
            have hin : i = l1.length := by omega
            subst hin
            clear hi hgk
            rw [st_all _ _ (by simp [qs])] at BK9
            rw [st_all _ _ (by simp [idx])] at BK10
            rw [List.take_of_length_le (by simp [qs])]
            have hpos : 0 < l1.length := by
              cases hl : l1 with
              | nil => exfalso; have := HSE.out; rw [hl] at this; simp [isum] at this; omega
              | cons y t => exact Nat.succ_pos _
            have hsrt := srt_row a0 S adw c1 l1 (l1.length - 1) (by omega) wr gT gW gA g10 BK10 BKT BKW BKA (fun i hi => (HB.out.cell (World.block_lt_of_cell? w _ (HCW.out i hi))).trans (HCW.out i hi)) NT10 NW10 NA10 ⟨by
                have h1 := World.block_lt_of_cell? w _ (HCW.out 0 (by omega))
                have h2 := GE10.out
                have h3 : (adw.add 0).block = adw.block := by unfold Addr.add; split <;> rfl
                rw [h3] at h1
                omega⟩ (fun x hx => HG.out x (List.mem_cons_of_mem _ hx)) a1 a2 S1 (by omega) (by have := HL20.out; omega)
            have HSRT := Asd.mk hsrt
            clear hsrt
            obtain ⟨lf0, lf1⟩ := left_bd (a0 := a0) S1 HSE.out hpos
            obtain ⟨L, hL⟩ := Int.eq_ofNat_of_zero_le lf0
            rw [hL] at lf1
            rw [hL]
            have HLE := Aside0.mk hL
            have L0 : (0 : Int) ≤ (L : Int) := by omega
            have L1 : (L : Int) ≤ (l1.length : Int) := by omega
            have L2 : (L : Int) ≤ 100 := by have := HL.out; omega
            clear hL lf0
            go_wp2_with (go_at_call 60; refine HSRT.out.mono ?_; rintro e w10 ⟨rfl, hr10, hkeep, hbel⟩)
            have HX := Aside0.mk hr10
            have BK9' : Aside0 (w10.heap[g9]? = some (.cells (CO (qs a0 S l1)) 3 (0, 0))) := ⟨(hkeep g9 N910.out).trans BK9.out⟩
            have HB' : Aside0 (Below w.heap.size w w10) := ⟨hbel _ _ HB.out GE10.out⟩
            have hgl : ∀ x ∈ l1, bad x = false := fun x hx => HG.out x (List.mem_cons_of_mem _ hx)
            have HBD := Aside0.mk (incs_bd (qs a0 S l1) (rd_any _ (qs_good a1 a2 S1 hgl HSE.out)) (ordL a0 l1))
            have HORD : Aside0 ((ordA a0 S l1 (l1.length - 1)).toList.map (fun i => (i.val : Int)) = (ordL a0 l1).map (fun (k : Nat) => (k : Int))) := ⟨by simp [ordL, HSE.out]⟩
            rw [HORD.out] at HX
            clear hr10 hkeep hbel BK9 HB BKA BKT BKW BK10 hgl HSRT HORD
            go_loopg [15, 83] L (fun gk v15 v83 wr => ∃ (j : Nat) (z : Value), v15 = z ∧ v83 = .int .i64 j ∧ j ≤ L ∧ L - j ≤ gk ∧ Aside0 (wr.heap[g9]? = some (.cells (CO (incs (qs a0 S l1) ((ordL a0 l1).take j))) 3 (0, 0))) ∧ Aside0 (wr.heap[g10]? = some (.cells (CO ((ordL a0 l1).map (fun (k : Nat) => (k : Int)))) 3 (0, 0))) ∧ Aside0 (Below w.heap.size w wr))
            case atStart => exact ⟨0, _, rfl, by go_num, by omega, by omega, BK9', HX, HB'⟩
            case round =>
              clear BK9' HX HB'
              obtain ⟨j, z, rfl, rfl, hj, hgj, BK9, BK10, HB⟩ := hrel
              by_cases hjl : j < L
              · have jz : (j : Int) < (L : Int) := by omega
                have jzb : decide ((j : Int) < (L : Int)) = true := decide_eq_true jz
                have hlen := ordL_len a0 l1 hpos
                have hjlen : j < (ordL a0 l1).length := by omega
                have htk := List.take_succ_eq_append_getElem hjlen
                have htl := ordL_lt a0 l1 hpos _ (List.getElem_mem hjlen)
                have hcx := (blk_cell BK10.out j).trans (CO_get _ _ (by simpa using hjlen))
                have hrx : rd ((ordL a0 l1).map (fun (k : Nat) => (k : Int))) j = (((ordL a0 l1)[j] : Nat) : Int) := by simp [rd, List.getElem?_eq_getElem hjlen]
                rw [hrx] at hcx
                obtain ⟨t, ht⟩ : ∃ t, (ordL a0 l1)[j] = t := ⟨_, rfl⟩
                rw [ht] at htk htl hcx
                have hsnoc := incs_snoc ((ordL a0 l1).take j) t (qs a0 S l1)
                rw [← htk] at hsnoc
                have hlo : (incs (qs a0 S l1) ((ordL a0 l1).take j)).length = l1.length := by rw [incs_len]; simp [qs]
                have hcy := (blk_cell BK9.out t).trans (CO_get _ _ (by omega))
                obtain ⟨y0, y1⟩ := HBD.out j t
                obtain ⟨y, hy⟩ : ∃ y, rd (incs (qs a0 S l1) ((ordL a0 l1).take j)) t = y := ⟨_, rfl⟩
                rw [hy] at hcy y0 y1 hsnoc
                have y2 : y ≤ 1073742000 := by omega
                have tz : (t : Int) < (l1.length : Int) := by omega
                have HSN := Aside0.mk hsnoc
                have hf9 := blk_frozen BK9.out t
                clear hlen hjlen htk hrx ht hsnoc hlo hy y1
                go_wp2
                go_roundg (L - (j + 1))
                case measure => omega
                case rel => exact ⟨j + 1, _, rfl, by go_num, by omega, Nat.le_refl _, ⟨by rw [HSN.out]; exact blk_put (cs := CO (incs (qs a0 S l1) ((ordL a0 l1).take j))) BK9.out t _ (by rw [CO_set])⟩, ⟨blk_far BK10.out (Ne.symm N910.out) _⟩, ⟨bw HB⟩⟩
              · have jz : ¬ (j : Int) < (L : Int) := by omega
                have jzb : decide ((j : Int) < (L : Int)) = false := decide_eq_false jz
                have hjL : j = L := by omega
                have HJ := Aside0.mk hjL
                clear hjL
                go_wp2
                go_ret2
                refine ⟨_, rfl, ?_, bw HB⟩
                have hLn : (a0 - isum (qs a0 (isum l1) l1)).toNat = L := by rw [HSE.out, HLE.out]; rfl
                unfold apOut
                rw [hLn, HSE.out, ← HJ.out]
                exact rowOf BK9.out GE9.out (by rw [incs_len]; simp [qs]) HL.out
end Go.Proofs.YtbapkiclgkddcaaGreatDoor.Given
