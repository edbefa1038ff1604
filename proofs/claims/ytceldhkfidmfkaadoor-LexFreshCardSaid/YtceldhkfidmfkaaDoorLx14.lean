-- by wprint.py, out of the translation
import Derived.Test.YtceldhkfidmfkaaDoorLx0
import Derived.Test.YtceldhkfidmfkaaDoorLx9
import Derived.Test.YtceldhkfidmfkaaDoorBuild
import Derived.Test.YtceldhkfidmfkaaDoorLaid
namespace Go.Proofs.YtceldhkfidmfkaaDoor.L
open Go.RowKit Go.Proofs.YtceldhkfidmfkaaDoorW.PrintWords Go.Proofs.YtceldhkfidmfkaaDoorW.PrintLast Go.Proofs.YtceldhkfidmfkaaDoorW.PrintMore
attribute [local go_sem] max2_int min2_int max_two min_two max_three min_three max_four min_four   -- for this text's walks alone
set_option linter.unusedVariables false
set_option linter.unusedSimpArgs false

/-! ### lex_Text: function 14 -/
-- IMPORT Derived.Test.YtceldhkfidmfkaaDoorBuild
open Build

/-- A token as it is written. -/
def pieceB (t : S31) : List UInt8 := if t.f0 = 2 then 34 :: (Lib.replaceAll t.f1.data.toList [34] [34, 34] ++ [34]) else t.f1.data.toList
/-- Tokens as they are written, a blank between any two. -/
def textFrom (first : Bool) : List S31 → List UInt8
  | [] => []
  | t :: ts => (if first then [] else [32]) ++ (pieceB t ++ textFrom false ts)
def textOk (l : List S31) : Bool := decide ((textFrom true l).length ≤ 1099511627776) && l.all fun t => decide (t.f1.size ≤ 1073741824)
def lex_Text.f (l0 : List S31) : Option ByteArray := if textOk l0 = true then some ⟨(textFrom true l0).toArray⟩ else none

theorem textFrom_drop {l : List S31} {x : Nat} (hx : x < l.length) (f : Bool) : textFrom f (l.drop x) = (if f then [] else [32]) ++ (pieceB (l.getD x z31) ++ textFrom false (l.drop (x + 1))) := by
  rw [List.drop_eq_getElem_cons hx, textFrom, List.getD_eq_getElem?_getD, List.getElem?_eq_getElem hx]
  rfl
theorem lt_of_builder {B b : Nat} {bs : List Value} {w : World} (h : Lib.IsBuilder 44 5 B b bs w) : b < w.heap.size := by
  rcases h with h | h <;> exact h.lt
theorem byteCells_append (a b : List UInt8) : Lib.byteCells (a ++ b) = Lib.byteCells a ++ Lib.byteCells b := by simp [Lib.byteCells]

set_option maxHeartbeats 4000000 in
set_option maxRecDepth 100000 in
theorem lex_Text.calls (A0 : Option Addr) (c0 : Nat) (l0 : List S31) (r : ByteArray) (w : World) (hr0 : Kd.C k31 w A0 l0.length l0) (hc0 : l0.length ≤ c0) (hG : LaidG w) (h : lex_Text.f l0 = some r) :
    Calls Tryd.prog 14 #[.slice A0 l0.length c0] w fun e w' => e = .returned (.string r) ∧ Below w.heap.size w w' := by
  have hu31 := Tryd.underlying31
  have hu44 := Tryd.underlying44
  have HR := Aside0.mk hr0
  have HGL := Aside0.mk hG
  clear hr0 hG
  have HB := Aside0.mk (Below.refl w.heap.size w)
  unfold lex_Text.f at h
  by_cases hok : textOk l0 = true
  case neg => rw [if_neg hok] at h; exact absurd h (by simp)
  rw [if_pos hok] at h
  obtain rfl := Option.some.inj h
  clear h
  have hlen : l0.length ≤ 9223372036854775807 := HR.out.2.1
  unfold textOk at hok
  rw [Bool.and_eq_true, decide_eq_true_eq, List.all_eq_true] at hok
  obtain ⟨hT, hS⟩ := hok
  have HT := Aside0.mk hT
  have HS := Aside0.mk hS
  clear hT hS
  go_enter Tryd.func14, Tryd.ntmps14
  go_wp2_with ((with_reducible refine gate_dst (N := 3) rfl ?_); refine box_event ?hg (N := 3) ?hd (cs := #[.pointer none, .slice none 0 0]) (t := 44) ?hr ?_; (case hd => rfl); (case hg => rfl); (case hr => first | (go_simp; done) | (go_simp; rfl)); intro gb hg w1 hbox hb; have HI : Aside0 (Lib.IsBuilder 44 5 w.heap.size gb (Lib.byteCells []) w1) := ⟨.inl ⟨Nat.le_of_eq hg.symm, _, hbox, World.ownsRow_nil _ _ _ _, by simp [Value.ownBlock]⟩⟩; have n0_ := Aside0.mk hb; have GE : Aside0 (w.heap.size ≤ gb) := ⟨Nat.le_of_eq hg.symm⟩; clear HB; have HB := n0_; clear n0_ hbox hb hg)
  go_loopw [8] (fun v8 wr => ∃ (x : Int) (acc : List UInt8), v8 = .int .i64 x ∧ Aside0 (0 ≤ x) ∧ Aside0 (x ≤ (l0.length : Int)) ∧ Aside0 (acc ++ textFrom (decide (x = 0)) (l0.drop x.toNat) = textFrom true l0) ∧ Aside0 (Lib.IsBuilder 44 5 w.heap.size gb (Lib.byteCells acc) wr) ∧ Aside0 (Below w.heap.size w wr)) (fun v8 _ => l0.length - (intOf v8).toNat)
  case atStart => exact ⟨0, [], by first | rfl | (simp; done), ⟨Int.le_refl _⟩, ⟨by omega⟩, ⟨rfl⟩, HI, HB⟩
  case round =>
    clear HI HB
    obtain ⟨x, acc, rfl, HX0, HX1, HA, HI, HB⟩ := hrel
    by_cases hlt : x < (l0.length : Int)
    · have hx0 := HX0.out
      obtain ⟨ad, e, k0, k1, k2⟩ := at_T31 (Kd.C_below HR.out HB.out) x hx0 hlt
      cases e
      have hd := textFrom_drop (l := l0) (x := x.toNat) (by omega) (decide (x = 0))
      have hmem : rd_T31 l0 x ∈ l0 := by
        unfold rd_T31
        rw [List.getD_eq_getElem?_getD, List.getElem?_eq_getElem (show x.toNat < l0.length by omega)]
        exact List.getElem_mem _
      have hsz : (rd_T31 l0 x).f1.size ≤ 1073741824 := by simpa using HS.out _ hmem
      rw [show l0.getD x.toNat z31 = rd_T31 l0 x from rfl] at hd
      obtain ⟨t, ht⟩ : ∃ t, rd_T31 l0 x = t := ⟨_, rfl⟩
      rw [ht] at k0 k1 k2 hd hsz
      clear ht hmem
      have hA := HA.out
      rw [hd] at hA
      have hL : (acc ++ ((if decide (x = 0) = true then [] else [32]) ++ (pieceB t ++ textFrom false (l0.drop (x.toNat + 1))))).length ≤ 1099511627776 := by rw [hA]; exact HT.out
      simp only [List.length_append] at hL
      have hw64 : IntKind.i64.wrap (x + 1) = x + 1 := by rw [IntKind.wrap_i64]; omega
      have hd1 : decide (x + 1 = 0) = false := decide_eq_false (by omega)
      have htn : (x + 1).toNat = x.toNat + 1 := by omega
      have HD1 := Aside0.mk hd1
      have HTN := Aside0.mk htn
      have hltb := eq_true hlt
      have hx0b := eq_true hx0
      clear hd hd1 htn HA
      by_cases hx : 0 < x
      · have hxb : decide (0 < x) = true := decide_eq_true hx
        have hx1 : decide (x = 0) = false := decide_eq_false (by omega)
        rw [hx1] at hA hL
        have HAA := Aside0.mk hA
        clear hA hx1
        simp only [Bool.false_eq_true, if_false, List.length_singleton] at hL
        go_wp2_with ((with_reducible refine gate_dst (N := 5) rfl ?_); refine box_event ?hg (N := 5) ?hd (cs := #[.int .i64 0, .string (⟨#[]⟩ : ByteArray), .int .i64 0]) (t := 31) ?hr ?_; (case hd => rfl); (case hg => rfl); (case hr => first | (go_simp; done) | (go_simp; rfl)); intro g5 hg w2 hbox hb; have BK := Aside0.mk hbox; have HBr := Aside0.mk hb; have hne : Aside0 (g5 ≠ gb) := ⟨by rw [hg]; have := lt_of_builder HI.out; omega⟩; have GR : Aside0 (wr.heap.size ≤ g5) := ⟨Nat.le_of_eq hg.symm⟩; clear hbox hb hg; have hcz0 : w2.cell? ⟨g5, 0, none⟩ = some (.int .i64 0) := (blk_cell BK.out 0).trans rfl; have hcz1 : w2.cell? ⟨g5, 1, none⟩ = some (.string (⟨#[]⟩ : ByteArray)) := (blk_cell BK.out 1).trans rfl; have hcz2 : w2.cell? ⟨g5, 2, none⟩ = some (.int .i64 0) := (blk_cell BK.out 2).trans rfl; have hfz0 := blk_frozen BK.out 0; have hfz1 := blk_frozen BK.out 1; have hfz2 := blk_frozen BK.out 2)
        have B3 : Below wr.heap.size wr (((w2.setCell ⟨g5, 0, none⟩ (.int .i64 t.f0)).setCell ⟨g5, 1, none⟩ (.string t.f1)).setCell ⟨g5, 2, none⟩ (.int .i64 t.f2)) := ((HBr.out.setCell (p := ⟨g5, 0, none⟩) GR.out _).setCell (p := ⟨g5, 1, none⟩) GR.out _).setCell (p := ⟨g5, 2, none⟩) GR.out _
        have K3 : (((w2.setCell ⟨g5, 0, none⟩ (.int .i64 t.f0)).setCell ⟨g5, 1, none⟩ (.string t.f1)).setCell ⟨g5, 2, none⟩ (.int .i64 t.f2)).heap[g5]? = some (.cells #[.int .i64 t.f0, .string t.f1, .int .i64 t.f2] 31 (0, 0)) := by refine blk_put (cs := #[.int .i64 t.f0, .string t.f1, .int .i64 0]) ?_ 2 _ rfl; refine blk_put (cs := #[.int .i64 t.f0, .string (⟨#[]⟩ : ByteArray), .int .i64 0]) ?_ 1 _ rfl; refine blk_put (cs := #[.int .i64 0, .string (⟨#[]⟩ : ByteArray), .int .i64 0]) ?_ 0 _ rfl; exact BK.out
        clear hcz0 hcz1 hcz2 hfz0 hfz1 hfz2 BK HBr
        generalize (((w2.setCell ⟨g5, 0, none⟩ (.int .i64 t.f0)).setCell ⟨g5, 1, none⟩ (.string t.f1)).setCell ⟨g5, 2, none⟩ (.int .i64 t.f2)) = W3 at B3 K3 ⊢
        have HI3 := Aside0.mk (builder_below HI.out B3)
        have HB3 := Aside0.mk (below_step HB.out B3)
        have BK3 := Aside0.mk K3
        clear HI HB B3 K3
        refine (writeByte w.heap.size gb (Lib.byteCells acc) 32 W3 HI3.out (by rw [Lib.byteCells_length]; omega) HB3.out.size).mono ?_
        rintro e w4 ⟨rfl, hI4, hb4, ho4⟩
        have HI4 : Aside0 (Lib.IsBuilder 44 5 w.heap.size gb (Lib.byteCells (acc ++ [32])) w4) := ⟨by rw [byteCells_append]; exact .inr hI4⟩
        have HB4 := Aside0.mk (HB3.out.trans hb4)
        have BK4 := Aside0.mk (ho4 g5 _ 31 (by decide) hne.out BK3.out)
        clear HI3 HB3 BK3 hI4 hb4 ho4
        have hcz0 : w4.cell? ⟨g5, 0, none⟩ = some (.int .i64 t.f0) := (blk_cell BK4.out 0).trans rfl
        have hcz1 : w4.cell? ⟨g5, 1, none⟩ = some (.string t.f1) := (blk_cell BK4.out 1).trans rfl
        by_cases hk : t.f0 = 2
        · have hkb : (t.f0 == 2) = true := beq_iff_eq.mpr hk
          have HK := Aside0.mk hk
          clear hk
          go_wp2_with fail
          refine (strings_ReplaceAll.calls t.f1 ⟨#[34]⟩ ⟨#[34, 34]⟩ ⟨(Lib.replaceAll t.f1.data.toList [34] [34, 34]).toArray⟩ _ (LaidG.below HGL.out HB4.out) (by unfold strings_ReplaceAll.f; rw [if_pos ⟨hsz, by decide, by decide⟩])).mono ?_
          rintro e w6 ⟨rfl, hb6⟩
          have HI6 := Aside0.mk (builder_below HI4.out hb6)
          have HB6 := Aside0.mk (below_step HB4.out hb6)
          clear hb6 HI4 HB4
          have hp : pieceB t = 34 :: (Lib.replaceAll t.f1.data.toList [34] [34, 34] ++ [34]) := by unfold pieceB; rw [if_pos HK.out]
          rw [hp] at hL
          generalize hrep : Lib.replaceAll t.f1.data.toList [34] [34, 34] = rep at hp hL ⊢
          clear hrep
          have HSC : Aside0 (Lib.strCells ((⟨#[34]⟩ : ByteArray) ++ ⟨rep.toArray⟩ ++ ⟨#[34]⟩) = Lib.byteCells (pieceB t)) := ⟨by rw [Lib.strCells_eq, hp]; congr 1⟩
          clear hp
          simp only [List.length_cons, List.length_append, List.length_nil, List.length_singleton] at hL
          have hs1 : (⟨rep.toArray⟩ : ByteArray).size = rep.length := by simp [ByteArray.size]
          have hs2 : ((⟨#[34]⟩ : ByteArray) ++ (⟨rep.toArray⟩ : ByteArray)).size = rep.length + 1 := by simp [ByteArray.size_append, ByteArray.size]
          have hs3 : ((⟨#[34]⟩ : ByteArray) ++ (⟨rep.toArray⟩ : ByteArray) ++ ⟨#[34]⟩).size = rep.length + 2 := by rw [ByteArray.size_append, hs2]; rfl
          have HS3 := Aside0.mk hs3
          clear hs3
          go_wp2_with fail
          refine (writeString w.heap.size gb (Lib.byteCells (acc ++ [32])) _ _ HI6.out ?hl HB6.out.size).mono ?_
          case hl => rw [Lib.byteCells_length]; (try simp only [List.length_append, List.length_singleton]); have := HS3.out; omega
          rintro e w7 ⟨rfl, hI7, hb7, ho7⟩
          have HI7 : Aside0 (Lib.IsBuilder 44 5 w.heap.size gb (Lib.byteCells (acc ++ [32] ++ pieceB t)) w7) := ⟨by rw [byteCells_append, ← HSC.out]; exact .inr hI7⟩
          have HB7 := Aside0.mk (HB6.out.trans hb7)
          clear hI7 hb7 ho7 HI6 HB6
          go_wp2
          go_roundw
          case measure => simp [intOf]; omega
          case rel => exact ⟨x + 1, acc ++ [32] ++ pieceB t, (by first | rfl | (simp; done)), ⟨by omega⟩, ⟨by omega⟩, ⟨by rw [HD1.out, HTN.out]; have := HAA.out; simpa [List.append_assoc] using this⟩, HI7, HB7⟩
        · have hkb : (t.f0 == 2) = false := beq_eq_false_iff_ne.mpr hk
          have HK := Aside0.mk hk
          clear hk
          go_wp2_with fail
          have hp : pieceB t = t.f1.data.toList := by unfold pieceB; rw [if_neg HK.out]
          have HSC : Aside0 (Lib.strCells t.f1 = Lib.byteCells (pieceB t)) := ⟨by rw [Lib.strCells_eq, hp]⟩
          rw [hp] at hL
          clear hp
          have hs3 : t.f1.data.toList.length = t.f1.size := by simp
          rw [hs3] at hL
          clear hs3
          refine (writeString w.heap.size gb (Lib.byteCells (acc ++ [32])) _ _ HI4.out ?hl HB4.out.size).mono ?_
          case hl => rw [Lib.byteCells_length]; (try simp only [List.length_append, List.length_singleton]); skip; omega
          rintro e w7 ⟨rfl, hI7, hb7, ho7⟩
          have HI7 : Aside0 (Lib.IsBuilder 44 5 w.heap.size gb (Lib.byteCells (acc ++ [32] ++ pieceB t)) w7) := ⟨by rw [byteCells_append, ← HSC.out]; exact .inr hI7⟩
          have HB7 := Aside0.mk (HB4.out.trans hb7)
          clear hI7 hb7 ho7 HI4 HB4
          go_wp2
          go_roundw
          case measure => simp [intOf]; omega
          case rel => exact ⟨x + 1, acc ++ [32] ++ pieceB t, (by first | rfl | (simp; done)), ⟨by omega⟩, ⟨by omega⟩, ⟨by rw [HD1.out, HTN.out]; have := HAA.out; simpa [List.append_assoc] using this⟩, HI7, HB7⟩
      · have hxb : decide (0 < x) = false := decide_eq_false hx
        rw [show decide (x = 0) = true from decide_eq_true (by omega)] at hA hL
        have HAA := Aside0.mk hA
        clear hA
        simp only [if_true, List.length_nil] at hL
        by_cases hk : t.f0 = 2
        · have hkb : (t.f0 == 2) = true := beq_iff_eq.mpr hk
          have HK := Aside0.mk hk
          clear hk
          go_wp2_with ((with_reducible refine gate_dst (N := 5) rfl ?_); refine box_event ?hg (N := 5) ?hd (cs := #[.int .i64 0, .string (⟨#[]⟩ : ByteArray), .int .i64 0]) (t := 31) ?hr ?_; (case hd => rfl); (case hg => rfl); (case hr => first | (go_simp; done) | (go_simp; rfl)); intro g5 hg w2 hbox hb; have BK := Aside0.mk hbox; have HBr := Aside0.mk hb; have hne : Aside0 (g5 ≠ gb) := ⟨by rw [hg]; have := lt_of_builder HI.out; omega⟩; have GR : Aside0 (wr.heap.size ≤ g5) := ⟨Nat.le_of_eq hg.symm⟩; clear hbox hb hg; have hcz0 : w2.cell? ⟨g5, 0, none⟩ = some (.int .i64 0) := (blk_cell BK.out 0).trans rfl; have hcz1 : w2.cell? ⟨g5, 1, none⟩ = some (.string (⟨#[]⟩ : ByteArray)) := (blk_cell BK.out 1).trans rfl; have hcz2 : w2.cell? ⟨g5, 2, none⟩ = some (.int .i64 0) := (blk_cell BK.out 2).trans rfl; have hfz0 := blk_frozen BK.out 0; have hfz1 := blk_frozen BK.out 1; have hfz2 := blk_frozen BK.out 2)
          have B3 : Below wr.heap.size wr (((w2.setCell ⟨g5, 0, none⟩ (.int .i64 t.f0)).setCell ⟨g5, 1, none⟩ (.string t.f1)).setCell ⟨g5, 2, none⟩ (.int .i64 t.f2)) := ((HBr.out.setCell (p := ⟨g5, 0, none⟩) GR.out _).setCell (p := ⟨g5, 1, none⟩) GR.out _).setCell (p := ⟨g5, 2, none⟩) GR.out _
          have K3 : (((w2.setCell ⟨g5, 0, none⟩ (.int .i64 t.f0)).setCell ⟨g5, 1, none⟩ (.string t.f1)).setCell ⟨g5, 2, none⟩ (.int .i64 t.f2)).heap[g5]? = some (.cells #[.int .i64 t.f0, .string t.f1, .int .i64 t.f2] 31 (0, 0)) := by refine blk_put (cs := #[.int .i64 t.f0, .string t.f1, .int .i64 0]) ?_ 2 _ rfl; refine blk_put (cs := #[.int .i64 t.f0, .string (⟨#[]⟩ : ByteArray), .int .i64 0]) ?_ 1 _ rfl; refine blk_put (cs := #[.int .i64 0, .string (⟨#[]⟩ : ByteArray), .int .i64 0]) ?_ 0 _ rfl; exact BK.out
          clear hcz0 hcz1 hcz2 hfz0 hfz1 hfz2 BK HBr
          generalize (((w2.setCell ⟨g5, 0, none⟩ (.int .i64 t.f0)).setCell ⟨g5, 1, none⟩ (.string t.f1)).setCell ⟨g5, 2, none⟩ (.int .i64 t.f2)) = W3 at B3 K3 ⊢
          have HI3 := Aside0.mk (builder_below HI.out B3)
          have HB3 := Aside0.mk (below_step HB.out B3)
          have BK3 := Aside0.mk K3
          clear HI HB B3 K3
          refine (strings_ReplaceAll.calls t.f1 ⟨#[34]⟩ ⟨#[34, 34]⟩ ⟨(Lib.replaceAll t.f1.data.toList [34] [34, 34]).toArray⟩ _ (LaidG.below HGL.out HB3.out) (by unfold strings_ReplaceAll.f; rw [if_pos ⟨hsz, by decide, by decide⟩])).mono ?_
          rintro e w6 ⟨rfl, hb6⟩
          have HI6 := Aside0.mk (builder_below HI3.out hb6)
          have HB6 := Aside0.mk (below_step HB3.out hb6)
          clear hb6 HI3 HB3
          have hp : pieceB t = 34 :: (Lib.replaceAll t.f1.data.toList [34] [34, 34] ++ [34]) := by unfold pieceB; rw [if_pos HK.out]
          rw [hp] at hL
          generalize hrep : Lib.replaceAll t.f1.data.toList [34] [34, 34] = rep at hp hL ⊢
          clear hrep
          have HSC : Aside0 (Lib.strCells ((⟨#[34]⟩ : ByteArray) ++ ⟨rep.toArray⟩ ++ ⟨#[34]⟩) = Lib.byteCells (pieceB t)) := ⟨by rw [Lib.strCells_eq, hp]; congr 1⟩
          clear hp
          simp only [List.length_cons, List.length_append, List.length_nil, List.length_singleton] at hL
          have hs1 : (⟨rep.toArray⟩ : ByteArray).size = rep.length := by simp [ByteArray.size]
          have hs2 : ((⟨#[34]⟩ : ByteArray) ++ (⟨rep.toArray⟩ : ByteArray)).size = rep.length + 1 := by simp [ByteArray.size_append, ByteArray.size]
          have hs3 : ((⟨#[34]⟩ : ByteArray) ++ (⟨rep.toArray⟩ : ByteArray) ++ ⟨#[34]⟩).size = rep.length + 2 := by rw [ByteArray.size_append, hs2]; rfl
          have HS3 := Aside0.mk hs3
          clear hs3
          go_wp2_with fail
          refine (writeString w.heap.size gb (Lib.byteCells (acc)) _ _ HI6.out ?hl HB6.out.size).mono ?_
          case hl => rw [Lib.byteCells_length]; (try simp only [List.length_append, List.length_singleton]); have := HS3.out; omega
          rintro e w7 ⟨rfl, hI7, hb7, ho7⟩
          have HI7 : Aside0 (Lib.IsBuilder 44 5 w.heap.size gb (Lib.byteCells (acc ++ pieceB t)) w7) := ⟨by rw [byteCells_append, ← HSC.out]; exact .inr hI7⟩
          have HB7 := Aside0.mk (HB6.out.trans hb7)
          clear hI7 hb7 ho7 HI6 HB6
          go_wp2
          go_roundw
          case measure => simp [intOf]; omega
          case rel => exact ⟨x + 1, acc ++ pieceB t, (by first | rfl | (simp; done)), ⟨by omega⟩, ⟨by omega⟩, ⟨by rw [HD1.out, HTN.out]; have := HAA.out; simpa [List.append_assoc] using this⟩, HI7, HB7⟩
        · have hkb : (t.f0 == 2) = false := beq_eq_false_iff_ne.mpr hk
          have HK := Aside0.mk hk
          clear hk
          go_wp2_with ((with_reducible refine gate_dst (N := 5) rfl ?_); refine box_event ?hg (N := 5) ?hd (cs := #[.int .i64 0, .string (⟨#[]⟩ : ByteArray), .int .i64 0]) (t := 31) ?hr ?_; (case hd => rfl); (case hg => rfl); (case hr => first | (go_simp; done) | (go_simp; rfl)); intro g5 hg w2 hbox hb; have BK := Aside0.mk hbox; have HBr := Aside0.mk hb; have hne : Aside0 (g5 ≠ gb) := ⟨by rw [hg]; have := lt_of_builder HI.out; omega⟩; have GR : Aside0 (wr.heap.size ≤ g5) := ⟨Nat.le_of_eq hg.symm⟩; clear hbox hb hg; have hcz0 : w2.cell? ⟨g5, 0, none⟩ = some (.int .i64 0) := (blk_cell BK.out 0).trans rfl; have hcz1 : w2.cell? ⟨g5, 1, none⟩ = some (.string (⟨#[]⟩ : ByteArray)) := (blk_cell BK.out 1).trans rfl; have hcz2 : w2.cell? ⟨g5, 2, none⟩ = some (.int .i64 0) := (blk_cell BK.out 2).trans rfl; have hfz0 := blk_frozen BK.out 0; have hfz1 := blk_frozen BK.out 1; have hfz2 := blk_frozen BK.out 2)
          have B3 : Below wr.heap.size wr (((w2.setCell ⟨g5, 0, none⟩ (.int .i64 t.f0)).setCell ⟨g5, 1, none⟩ (.string t.f1)).setCell ⟨g5, 2, none⟩ (.int .i64 t.f2)) := ((HBr.out.setCell (p := ⟨g5, 0, none⟩) GR.out _).setCell (p := ⟨g5, 1, none⟩) GR.out _).setCell (p := ⟨g5, 2, none⟩) GR.out _
          have K3 : (((w2.setCell ⟨g5, 0, none⟩ (.int .i64 t.f0)).setCell ⟨g5, 1, none⟩ (.string t.f1)).setCell ⟨g5, 2, none⟩ (.int .i64 t.f2)).heap[g5]? = some (.cells #[.int .i64 t.f0, .string t.f1, .int .i64 t.f2] 31 (0, 0)) := by refine blk_put (cs := #[.int .i64 t.f0, .string t.f1, .int .i64 0]) ?_ 2 _ rfl; refine blk_put (cs := #[.int .i64 t.f0, .string (⟨#[]⟩ : ByteArray), .int .i64 0]) ?_ 1 _ rfl; refine blk_put (cs := #[.int .i64 0, .string (⟨#[]⟩ : ByteArray), .int .i64 0]) ?_ 0 _ rfl; exact BK.out
          clear hcz0 hcz1 hcz2 hfz0 hfz1 hfz2 BK HBr
          generalize (((w2.setCell ⟨g5, 0, none⟩ (.int .i64 t.f0)).setCell ⟨g5, 1, none⟩ (.string t.f1)).setCell ⟨g5, 2, none⟩ (.int .i64 t.f2)) = W3 at B3 K3 ⊢
          have HI3 := Aside0.mk (builder_below HI.out B3)
          have HB3 := Aside0.mk (below_step HB.out B3)
          have BK3 := Aside0.mk K3
          clear HI HB B3 K3
          have hp : pieceB t = t.f1.data.toList := by unfold pieceB; rw [if_neg HK.out]
          have HSC : Aside0 (Lib.strCells t.f1 = Lib.byteCells (pieceB t)) := ⟨by rw [Lib.strCells_eq, hp]⟩
          rw [hp] at hL
          clear hp
          have hs3 : t.f1.data.toList.length = t.f1.size := by simp
          rw [hs3] at hL
          clear hs3
          refine (writeString w.heap.size gb (Lib.byteCells (acc)) _ _ HI3.out ?hl HB3.out.size).mono ?_
          case hl => rw [Lib.byteCells_length]; (try simp only [List.length_append, List.length_singleton]); skip; omega
          rintro e w7 ⟨rfl, hI7, hb7, ho7⟩
          have HI7 : Aside0 (Lib.IsBuilder 44 5 w.heap.size gb (Lib.byteCells (acc ++ pieceB t)) w7) := ⟨by rw [byteCells_append, ← HSC.out]; exact .inr hI7⟩
          have HB7 := Aside0.mk (HB3.out.trans hb7)
          clear hI7 hb7 ho7 HI3 HB3
          go_wp2
          go_roundw
          case measure => simp [intOf]; omega
          case rel => exact ⟨x + 1, acc ++ pieceB t, (by first | rfl | (simp; done)), ⟨by omega⟩, ⟨by omega⟩, ⟨by rw [HD1.out, HTN.out]; have := HAA.out; simpa [List.append_assoc] using this⟩, HI7, HB7⟩
    · have hx : x = (l0.length : Int) := by have := HX1.out; omega
      have hfin : acc = textFrom true l0 := by
        have h1 := HA.out
        rw [hx, Int.toNat_natCast, List.drop_length] at h1
        simpa [textFrom] using h1
      have HF := Aside0.mk hfin
      have hltb : decide (x < (l0.length : Int)) = false := decide_eq_false hlt
      clear hfin hx HA
      go_wp2_with fail
      refine (Tryd.Builder_String_any w.heap.size gb acc _ HI.out HB.out.size).mono ?_
      rintro e w8 ⟨rfl, hb8⟩
      have HB8 := Aside0.mk (HB.out.trans hb8)
      clear hb8
      go_wp2
      go_ret
      exact ⟨by rw [← HF.out]; rfl, HB8.out⟩

end Go.Proofs.YtceldhkfidmfkaaDoor.L
