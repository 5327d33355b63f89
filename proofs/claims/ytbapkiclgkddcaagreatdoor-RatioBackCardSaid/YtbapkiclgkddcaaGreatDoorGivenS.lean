/- Contracts of strings.Trim, strings.IndexAny and strconv.ParseUint, by the shelf's theorems laid at this program: outside the stated inputs the Lean functions answer none. -/
import Derived.Test.YtbapkiclgkddcaaGreatDoorShp
import Derived.Test.YtbapkiclgkddcaaGreatDoorIdx
import Derived.Test.YtbapkiclgkddcaaGreatDoorK
import Derived.Below
import Derived.WalkKit
namespace Go.Proofs.YtbapkiclgkddcaaGreatDoor.Given
open Go.RowKit Go.Proofs
set_option linter.unusedVariables false
def asciiB (l : List UInt8) : Bool := l.all fun b => decide (b.toNat < 128)
theorem asciiB_of {l : List UInt8} (h : asciiB l = true) (j : Nat) (b : UInt8) (hb : l[j]? = some b) : b.toNat < 128 := by
  have := List.all_eq_true.1 h b (List.mem_of_getElem? hb)
  exact of_decide_eq_true this
def strings_Trim.f (a0 a1 : ByteArray) : Option ByteArray :=
  if a0.size ≤ 9223372036854775807 ∧ a1.size < 4294967281 ∧ asciiB a1.data.toList = true then some ⟨(Lib.trimS a0.data.toList a1.data.toList).toArray⟩ else none
theorem strings_Trim.calls (a0 a1 r : ByteArray) (w : World) (h : strings_Trim.f a0 a1 = some r) :
    Calls Tryz.prog 52 #[.string a0, .string a1] w fun e w' => e = .returned (.string r) ∧ Below w.heap.size w w' := by
  unfold strings_Trim.f at h
  split at h
  · rename_i hc
    obtain rfl := Option.some.inj h
    exact Tryz.strings_Trim_laid a0 a1 w hc.1 hc.2.1 (fun j b => asciiB_of hc.2.2 j b)
  · cases h
def strings_IndexAny.f (a0 a1 : ByteArray) : Option Int :=
  if a0.size < 4294967281 ∧ a1.data.toList = [47, 46] then some (Lib.indexAny a0.data.toList [47, 46]) else none
theorem strings_IndexAny.calls (a0 a1 : ByteArray) (r : Int) (w : World) (h : strings_IndexAny.f a0 a1 = some r) :
    Calls Tryz.prog 26 #[.string a0, .string a1] w fun e w' => e = .returned (.int .i64 r) ∧ Below w.heap.size w w' := by
  unfold strings_IndexAny.f at h
  split at h
  · rename_i hc
    obtain rfl := Option.some.inj h
    have e : a1 = ⟨#[47, 46]⟩ := by
      cases a1 with
      | mk d => exact congrArg ByteArray.mk (Array.toList_inj.1 hc.2)
    rw [e]
    exact idx_any a0 w hc.1
  · cases h
/-- strconv.ParseUint(s, 10, 64) where s spells a number that fits -/
def parseU (a0 : ByteArray) : Option Nat := if a0.size ≤ 9223372036854775806 then (match Lib.parseUintB 64 a0.data.toList with | .ok u => some u | _ => none) else none
theorem parseU_calls (a0 : ByteArray) (u : Nat) (w : World) (h : parseU a0 = some u) :
    Calls Tryz.prog 28 #[.string a0, .int .i64 10, .int .i64 64] w fun e w' => e = .returned (.tuple #[.int .u64 u, .nilIface]) ∧ Below w.heap.size w w' := by
  unfold parseU at h
  split at h
  · rename_i hc
    have hu : Lib.parseUintB 64 a0.data.toList = .ok u := by
      cases hp : Lib.parseUintB 64 a0.data.toList <;> rw [hp] at h <;> simp at h
      rw [h]
    refine (Tryz.strconv_ParseUint_10_at64_ok a0 hc u hu w).mono ?_
    rintro e w' ⟨he, hw⟩
    refine ⟨he, ?_⟩
    rcases hw with rfl | rfl
    · exact Below.refl _ _
    · exact Lib.bytesWorld_below _ _ _
  · cases h
end Go.Proofs.YtbapkiclgkddcaaGreatDoor.Given
