/- Strings compared by > and <= as the walk's print speaks of them; the order of byte strings. -/
import Derived.Test.YtppegigcclflbaaWWords
namespace Go.Proofs.Ytppegigcclflbaa.PStr
open Go.RowKit

theorem bytesLess_eq : ∀ (x y : List UInt8), Op.bytesLess x y = decide (x < y)
  | [], [] => by simp [Op.bytesLess]
  | _ :: _, [] => by simp [Op.bytesLess]
  | [], _ :: _ => by simp [Op.bytesLess]
  | a :: x, b :: y => by
    rw [Op.bytesLess, bytesLess_eq x y]
    simp only [List.cons_lt_cons_iff]
    by_cases h1 : a < b <;> by_cases h2 : a = b <;> by_cases h3 : x < y <;> simp [h1, h2, h3]
theorem lt_irr (x : List UInt8) : ¬ x < x := List.lt_irrefl x
theorem lt_tri (x y : List UInt8) : x < y ∨ x = y ∨ y < x := by
  by_cases h : x < y
  · exact .inl h
  · by_cases h2 : y < x
    · exact .inr (.inr h2)
    · exact .inr (.inl (List.le_antisymm (List.not_lt.1 h2) (List.not_lt.1 h)))
theorem lt_tr {x y z : List UInt8} (h : x < y) (h2 : y < z) : x < z := List.lt_trans h h2
theorem lt_asym {x y : List UInt8} (h : x < y) : ¬ y < x := fun h2 => lt_irr x (lt_tr h h2)
theorem not_le_bytes (x y : List UInt8) : (!(Op.bytesLess x y || x == y)) = Op.bytesLess y x := by
  rw [bytesLess_eq, bytesLess_eq]
  rcases lt_tri x y with h | h | h
  · simp [h, lt_asym h]
  · subst h
    simp [lt_irr]
  · have h1 := lt_asym h
    have h2 : ¬ x = y := fun e => lt_irr x (e ▸ h)
    simp [h, h1, h2]
theorem string_gtr (t : TypeId) (a b : ByteArray) : binOp .gtr t (.string a) (.string b) = pure (.bool (Op.bytesLess b.toList a.toList)) := by
  rw [← not_le_bytes]
  rfl
theorem string_leq (t : TypeId) (a b : ByteArray) : binOp .leq t (.string a) (.string b) = pure (.bool (!(Op.bytesLess b.toList a.toList))) := by
  rw [← not_le_bytes, Bool.not_not]
  rfl
end Go.Proofs.Ytppegigcclflbaa.PStr
