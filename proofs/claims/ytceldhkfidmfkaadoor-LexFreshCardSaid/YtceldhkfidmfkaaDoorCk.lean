/- What the cards of this seat share: the package-level variables hold what the list says; a world for the witness. -/
import Derived.Test.YtceldhkfidmfkaaDoorCards
import Derived.Test.YtceldhkfidmfkaaDoorTie
import Derived.Test.YtceldhkfidmfkaaDoorLaid
import Derived.WalkKit
import Derived.ProofKit
import Derived.OpenShut
import Derived.Deep.DeepHandedRow
import Derived.Lib.LaidTab
import Derived.Shelf.Vars
import Derived.Lay
namespace Go.Proofs.YtceldhkfidmfkaaDoor.L
open Go Go.ChangeShapes Go.WideShapes Go.ChangeAt Go.RowKit
set_option maxRecDepth 100000

theorem own : ownKnob Tryd.prog.godebug = none := by kernel_rfl
theorem gFaults : Tryd.prog.globalNamed "whittle/lex.faults" = some 0 := by kernel_rfl
theorem gFaultsType : (Tryd.prog.globals[0]?).map (·.type) = some 60 := by kernel_rfl
theorem gPairs : Tryd.prog.globalNamed "whittle/lex.pairs" = some 1 := by kernel_rfl
theorem gPairsType : (Tryd.prog.globals[1]?).map (·.type) = some 61 := by kernel_rfl
theorem cells60 : Tryd.prog.cellsOf 60 = 8 := by kernel_rfl
theorem cells61 : Tryd.prog.cellsOf 61 = 3 := by kernel_rfl
theorem cells9 : Tryd.prog.cellsOf 9 = 1 := by kernel_rfl

theorem cells_of_strs {H : Type} {enc : TypeId × Value → H} {P : Program} {w : World} {base : Nat} {sp : Nat → Bool} {held : Bool} {fuel : Nat} {t e : TypeId} {n : Nat} {cs : List Value} {zs : List (List UInt8)} {p : List MemPlace}
    (ht : P.underlying t = some (.array n e)) (he : P.underlying e = some .string) (hce : P.cellsOf e = 1) (hct : P.cellsOf t = n)
    (h : DataW.trod enc P w base sp held fuel t cs = some ((.agg (zs.map fun z => .lit (.string z)) : DataW H), p)) : cs = zs.map fun z => Value.string ⟨z.toArray⟩ := by
  cases fuel with
  | zero => simp [DataW.trod] at h
  | succ fuel =>
    simp only [DataW.trod, ht, hce, hct, Nat.mul_one] at h
    split at h
    · rename_i hl
      obtain ⟨xs, hm, hx⟩ := Option.map_eq_some_iff.1 h
      have hxs : xs.map (·.1) = zs.map fun z => (DataW.lit (.string z) : DataW H) := by
        have := congrArg Prod.fst hx
        simpa using this
      have hxl : xs.length = n := by simpa using Lib.mapM_length hm
      have hzl : zs.length = n := by
        have := congrArg List.length hxs
        simp at this
        omega
      apply List.ext_getElem?
      intro i
      by_cases hi : i < n
      · obtain ⟨b, hb, hf⟩ := Lib.mapM_at hm i i (by simp [hi])
        obtain ⟨z, hc, rfl, _⟩ := DataW.trod_string he hf
        have h1 : cs[i]? = some (.string z) := by
          have := congrArg (·[0]?) hc
          simpa [List.getElem?_take, List.getElem?_drop] using this
        have h2 : (xs.map (·.1))[i]? = some (DataW.lit (.string z.data.toList) : DataW H) := by simp [hb]
        rw [hxs] at h2
        simp only [List.getElem?_map, Option.map_eq_some_iff, DataW.lit.injEq, Lit.string.injEq] at h2
        obtain ⟨z', hz', rfl⟩ := h2
        simp [h1, hz']
      · rw [List.getElem?_eq_none (by omega), List.getElem?_eq_none (by simp; omega)]
    · cases h

/-- The list of the rows of this seat. -/
def laidL : List (String × DataW Unit) := [("unicode/utf8.acceptRanges", Rows.laid_unicode_utf8_acceptRanges), ("whittle/lex.pairs", Rows.laid_whittle_lex_pairs), ("whittle/lex.faults", Rows.laid_whittle_lex_faults), ("unicode/utf8.first", Rows.laid_unicode_utf8_first)]
theorem laid_plain : (laidL.all fun x => x.2.handleName?.isNone) = true := by kernel_rfl

theorem laidG_of {W : World} (h : laidMetH Tryd.prog laidL W) (hsh : W.ShapedOpen Tryd.prog) : LaidG W := by
  rw [MakeChecks.laidMetH_plain _ _ _ laid_plain] at h
  obtain ⟨ps, ⟨_, _, _, _, _, _, _, _, _, _, h1, _⟩, _⟩ := h
  obtain ⟨g1, t1, cs1, fuel1, p1, q1, hg1, ht1, hv1, hd1, h2, _⟩ := h1
  obtain ⟨g2, t2, cs2, fuel2, p2, q2, hg2, ht2, hv2, hd2, _, _⟩ := h2
  obtain rfl := Option.some.inj (gPairs.symm.trans hg1)
  obtain rfl := Option.some.inj (gPairsType.symm.trans ht1)
  obtain rfl := Option.some.inj (gFaults.symm.trans hg2)
  obtain rfl := Option.some.inj (gFaultsType.symm.trans ht2)
  have e1 := cells_of_strs (zs := [[60, 62], [60, 61], [62, 61]]) Tryd.underlying61 Tryd.underlying9 cells9 cells61 hd1
  have e2 := cells_of_strs (zs := [[35, 68, 73, 86, 47, 48, 33], [35, 86, 65, 76, 85, 69, 33], [35, 82, 69, 70, 33], [35, 78, 85, 77, 33], [35, 78, 47, 65], [35, 67, 73, 82, 67, 76, 69, 33], [35, 76, 79, 78, 71, 33], [35, 65, 82, 71, 33]]) Tryd.underlying60 Tryd.underlying9 cells9 cells60 hd2
  have hp := fun j => World.var?_cell gPairs hv1 j
  have hf := fun j => World.var?_cell gFaults hv2 j
  obtain ⟨m, hm⟩ := cell_of_shapedOpen_int (P := Tryd.prog) (g := 2) (t := 3) (zero := #[.int .i64 0]) hsh (of_decide_eq_true (by kernel_rfl)) (by kernel_rfl) rfl (by kernel_rfl) (by kernel_rfl) Tryd.underlying3
  refine ⟨⟨m, hm⟩, fun i hi => ?_, fun i hi => ?_, ?_⟩
  · rw [hf i, ← Array.getElem?_toList, e2]
    match i, hi with
    | 0, _ | 1, _ | 2, _ | 3, _ | 4, _ | 5, _ | 6, _ | 7, _ => rfl
  · rw [hp i, ← Array.getElem?_toList, e1]
    match i, hi with
    | 0, _ | 1, _ | 2, _ => rfl
  · refine Decidable.byContradiction fun hn => ?_
    have : W.heap[2]? = none := Array.getElem?_eq_none (by omega)
    simp [World.cell?, this] at hm

theorem laid_met (os : Os) (args : Array Value) : laidMetH Tryd.prog laidL ((World.laidAll Tryd.prog os laidL).forCall (fun _ _ => 0) ⟨#[], args, []⟩).memory := by
  rw [MakeChecks.laidMetH_plain _ _ _ laid_plain]
  exact laidMet_laidAll _ (by kernel_rfl) (by kernel_rfl)
end Go.Proofs.YtceldhkfidmfkaaDoor.L
