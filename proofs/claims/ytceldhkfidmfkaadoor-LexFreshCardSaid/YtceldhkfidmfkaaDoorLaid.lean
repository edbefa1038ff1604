/- What the package-level variables that the lexer reads hold. -/
import Derived.Test.YtceldhkfidmfkaaDoorWMore
import Derived.Below
namespace Go.Proofs.YtceldhkfidmfkaaDoor.L
open Go.RowKit Go.Proofs.YtceldhkfidmfkaaDoorW.PrintWords

/-- The faults' names. -/
def faultsB : List ByteArray := [⟨#[35, 68, 73, 86, 47, 48, 33]⟩, ⟨#[35, 86, 65, 76, 85, 69, 33]⟩, ⟨#[35, 82, 69, 70, 33]⟩, ⟨#[35, 78, 85, 77, 33]⟩, ⟨#[35, 78, 47, 65]⟩, ⟨#[35, 67, 73, 82, 67, 76, 69, 33]⟩, ⟨#[35, 76, 79, 78, 71, 33]⟩, ⟨#[35, 65, 82, 71, 33]⟩]
/-- The marks of two bytes. -/
def pairsB : List ByteArray := [⟨#[60, 62]⟩, ⟨#[60, 61]⟩, ⟨#[62, 61]⟩]

theorem dset {w : World} {g : Nat} {a b c v1 v2 v3 v4 : Value} {t : TypeId} (h : w.heap[g]? = some (.cells #[a, b, c] t (0, 0))) :
    ((((w.setCell ⟨g, 0, none⟩ v1).setCell ⟨g, 1, none⟩ v2).setCell ⟨g, 2, none⟩ v3).setCell ⟨g, 2, none⟩ v4).cell? ⟨g, 2, none⟩ = some v4 := by
  simp [World.cell?, World.setCell, Array.getElem?_modify, h]

/-- What the package-level variables hold. -/
structure LaidG (w : World) : Prop where
  ml : ∃ m, w.cell? ⟨2, 0, none⟩ = some (.int .i64 m)
  faults : ∀ i, i < 8 → w.cell? ⟨0, i, none⟩ = some (.string (faultsB.getD i ⟨#[]⟩))
  pairs : ∀ i, i < 3 → w.cell? ⟨1, i, none⟩ = some (.string (pairsB.getD i ⟨#[]⟩))
  size : 3 ≤ w.heap.size

theorem LaidG.below {w w' : World} (h : LaidG w) (hb : Below w.heap.size w w') : LaidG w' := by
  have hs := h.size
  have hc : ∀ b o, b < 3 → w'.cell? ⟨b, o, none⟩ = w.cell? ⟨b, o, none⟩ := fun b o hlt => hb.cell (p := ⟨b, o, none⟩) (by show b < _; omega)
  obtain ⟨m, hm⟩ := h.ml
  exact ⟨⟨m, (hc 2 0 (by omega)).trans hm⟩, fun i hi => (hc 0 i (by omega)).trans (h.faults i hi), fun i hi => (hc 1 i (by omega)).trans (h.pairs i hi), Nat.le_trans hs hb.size⟩
theorem LaidG.drawn {w w' : World} (h : LaidG w) (hd : Drawn0 w w') : LaidG w' := by
  obtain ⟨n, rfl⟩ := hd
  exact ⟨h.ml, h.faults, h.pairs, h.size⟩
end Go.Proofs.YtceldhkfidmfkaaDoor.L
