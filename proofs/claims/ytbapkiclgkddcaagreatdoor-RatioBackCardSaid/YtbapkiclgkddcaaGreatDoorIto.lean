/- strconv.Itoa: its contract, by the shelf's theorem; it reads a table of the library's: the table's fact is carried from the world in which the law's call begins. -/
import Derived.Test.YtbapkiclgkddcaaGreatDoorShp
import Derived.Test.YtbapkiclgkddcaaGreatDoorK
import Derived.WalkSmall
import Derived.WalkKit
namespace Go.Proofs.YtbapkiclgkddcaaGreatDoor.Given
open Go.RowKit Go.Proofs Go.Proofs.YtbapkiclgkddcaaGreatDoorW.PrintWords Go.Proofs.YtbapkiclgkddcaaGreatDoorW.PrintLast Go.Proofs.YtbapkiclgkddcaaGreatDoorW.PrintMore
set_option linter.unusedVariables false
def Tab (w : World) : Prop := Lib.TabIs Tryz.prog w "internal/strconv.uint64pow10" .u64 Lib.pow10Tab
theorem tab_below {w w' : World} (h : Tab w) (hb : Below w.heap.size w w') : Tab w' := by
  unfold Tab Lib.TabIs at h ⊢
  cases hg : Tryz.prog.globalNamed "internal/strconv.uint64pow10" with
  | none => unfold World.var? at h; rw [hg] at h; cases h
  | some g =>
    refine var?_below hb hg ?_ h
    unfold World.var? at h
    rw [hg, Option.bind_some] at h
    apply Decidable.byContradiction
    intro hn
    rw [Array.getElem?_eq_none (by omega)] at h
    cases h
def strconv_Itoa_22.f (a0 : Int) : Option ByteArray := if -9223372036854775808 ≤ a0 ∧ a0 ≤ 9223372036854775807 then some ⟨(Lib.itoa a0).toArray⟩ else none
theorem grow_below (w : World) (k : Nat) (os : Array Obj) : Below w.heap.size w (Go.Sort.grow (w.drewN k) os) := by
  refine ⟨rfl, rfl, rfl, ?_, ?_⟩
  · show w.heap.size ≤ (w.heap ++ os).size
    rw [Array.size_append]; omega
  · intro j hj
    show (w.heap ++ os)[j]? = w.heap[j]?
    rw [Array.getElem?_append_left hj]
theorem strconv_Itoa_22.calls (a0 : Int) (r : ByteArray) (w0 w : World) (h : strconv_Itoa_22.f a0 = some r) (HT : Aside0 (Tab w0)) (HB : Aside0 (Below w0.heap.size w0 w)) :
    Calls Tryz.prog 22 #[.int .i64 a0] w fun e w' => e = .returned (.string r) ∧ Below w.heap.size w w' := by
  unfold strconv_Itoa_22.f at h
  split at h
  · rename_i hc
    obtain rfl := Option.some.inj h
    refine (Tryz.strconv_Itoa a0 hc.1 hc.2 w (tab_below HT.out HB.out)).mono ?_
    rintro e w' ⟨he, k, os, rfl⟩
    exact ⟨he, grow_below _ _ _⟩
  · cases h
end Go.Proofs.YtbapkiclgkddcaaGreatDoor.Given
