-- by wprint.py, out of the translation
import Derived.Test.YtceldhkfidmfkaaDoorLx0
import Derived.Lib.ReplaceLaws
import Derived.Test.YtceldhkfidmfkaaDoorLaid
import Derived.Test.YtceldhkfidmfkaaDoorShelf
namespace Go.Proofs.YtceldhkfidmfkaaDoor.L
open Go.RowKit Go.Proofs.YtceldhkfidmfkaaDoorW.PrintWords Go.Proofs.YtceldhkfidmfkaaDoorW.PrintLast Go.Proofs.YtceldhkfidmfkaaDoorW.PrintMore
attribute [local go_sem] max2_int min2_int max_two min_two max_three min_three max_four min_four   -- for this text's walks alone
set_option linter.unusedVariables false
set_option linter.unusedSimpArgs false

/-! ### strings_ReplaceAll: function 22 -/
-- IMPORT Derived.Test.YtceldhkfidmfkaaDoorShelf
-- IMPORT Derived.Lib.ReplaceLaws
def strings_ReplaceAll.f (a0 a1 a2 : ByteArray) : Option ByteArray :=
  if a0.size ≤ 1073741824 ∧ 1 ≤ a1.size ∧ a2.size ≤ 16 then some ⟨(Lib.replaceAll a0.data.toList a1.data.toList a2.data.toList).toArray⟩ else none
theorem strings_ReplaceAll.calls (a0 a1 a2 : ByteArray) (r : ByteArray) (w : World) (hG : LaidG w) (h : strings_ReplaceAll.f a0 a1 a2 = some r) :
    Calls Tryd.prog 22 #[.string a0, .string a1, .string a2] w fun e w' => e = .returned (.string r) ∧ Below w.heap.size w w' := by
  unfold strings_ReplaceAll.f at h
  by_cases hc : a0.size ≤ 1073741824 ∧ 1 ≤ a1.size ∧ a2.size ≤ 16
  · rw [if_pos hc] at h
    obtain rfl := Option.some.inj h
    obtain ⟨h0, h1, h2⟩ := hc
    obtain ⟨m, hm⟩ := hG.ml
    have hk : Lib.countB a0 a1 ≤ a0.size + 1 := by
      have hb := Lib.countB_mul_le a1 h1 a0.size a0 (Nat.le_refl _)
      have : Lib.countB a0 a1 * 1 ≤ Lib.countB a0 a1 * a1.size := Nat.mul_le_mul_left _ h1
      omega
    have hmul : Lib.countB a0 a1 * a2.size ≤ (a0.size + 1) * 16 := Nat.mul_le_mul hk h2
    exact Tryd.strings_ReplaceAll a0 a1 a2 m w (by omega) hm h1 (by omega)
  · rw [if_neg hc] at h
    exact absurd h (by simp)

end Go.Proofs.YtceldhkfidmfkaaDoor.L
