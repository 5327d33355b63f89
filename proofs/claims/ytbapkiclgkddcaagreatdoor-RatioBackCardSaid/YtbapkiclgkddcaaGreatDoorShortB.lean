/- Short names of three laws of lists, for the longest printed walks. -/
import Derived.Test.YtbapkiclgkddcaaGreatDoorShort
namespace Go.Proofs.YtbapkiclgkddcaaGreatDoor.Short
theorem zA {α : Type} (l : List α) (i : Nat) (a : α) : l.toArray.setIfInBounds i a = (l.set i a).toArray := List.setIfInBounds_toArray ..
theorem zB {α : Type} (x : α) (xs : List α) (a : α) : (x :: xs).set 0 a = a :: xs := List.set_cons_zero
theorem zC {α : Type} (x : α) (xs : List α) (n : Nat) (a : α) : (x :: xs).set (n + 1) a = x :: xs.set n a := List.set_cons_succ
end Go.Proofs.YtbapkiclgkddcaaGreatDoor.Short
