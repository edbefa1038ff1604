/- The walks of (*queue.Queue).of, its closure, slices.ContainsFunc and slices.IndexFunc at []api.Area. -/
import Derived.Test.YtgkbcgmcpbbneaaQue
import Derived.BigRegion
namespace Go.Proofs.Ytgkbcgmcpbbneaa.Q
open Go Go.RowKit Go.Maps Go.Proofs.YtgkbcgmcpbbneaaW.PrintWords Go.Proofs.YtgkbcgmcpbbneaaW.PrintLast Go.Proofs.YtgkbcgmcpbbneaaW.PrintMore
attribute [local go_sem] max2_int min2_int max_two min_two max_three min_three max_four min_four
set_option maxRecDepth 100000
set_option linter.unusedVariables false
set_option linter.unusedSimpArgs false

theorem QuAt.below {w w' : World} {F : Nat → Prop} {qb mb : Nat} {vs vh : Value} {L : List Wt} {sn : List S46} {hp : List S63} (h : QuAt w F qb mb vs vh L sn hp) (hb : Below w.heap.size w w') : QuAt w' F qb mb vs vh L sn hp := h.move (fun k _ hk => hb.block k hk)
theorem MapAt.below {w w' : World} {b : Nat} {L : List Wt} (h : MapAt w b L) (hb : Below w.heap.size w w') : MapAt w' b L := h.move (hb.block b h.lt)
def hasA (a : S46) (c : S30) : Bool := decide (0 ≤ a.f0 ∧ a.f0 < 16 ∧ 0 ≤ a.f1 ∧ a.f1 ≤ a.f3 ∧ a.f3 < 65536 ∧ 0 ≤ a.f2 ∧ a.f2 ≤ a.f4 ∧ a.f4 < 256 ∧ c.f0 = a.f0 ∧ a.f1 ≤ c.f1 ∧ c.f1 ≤ a.f3 ∧ a.f2 ≤ c.f2 ∧ c.f2 ≤ a.f4)
theorem ite_d (p q : Prop) [Decidable p] [Decidable q] : (if p then some (decide q) else some false) = some (decide (p ∧ q)) := by
  by_cases h : p <;> simp [h]
theorem right_f (a b c : Int) : place_Right.f a b c = some (decide (0 ≤ a ∧ a < 16 ∧ 0 ≤ b ∧ b < 65536 ∧ 0 ≤ c ∧ c < 256)) := by
  unfold place_Right.f place_sheet.f place_row.f place_column.f
  simp only [ite_d, Option.bind_some, decide_eq_true_eq]
  congr 1
  simp only [decide_eq_decide]
  omega
theorem has_f (a : S46) (c : S30) : place_Has.f a.f0 a.f1 a.f2 a.f3 a.f4 c.f0 c.f1 c.f2 = some (hasA a c) := by
  unfold place_Has.f place_RightArea.f place_first.f place_last.f hasA
  simp only [right_f, ite_d, Option.bind_some, decide_eq_true_eq]
  congr 1
  simp only [decide_eq_decide]
  omega
theorem refHas_f (a : S46) (c : S30) : whittleref3_Has.f a.f0 a.f1 a.f2 a.f3 a.f4 c.f0 c.f1 c.f2 = some (hasA a c) := by
  unfold whittleref3_Has.f whittleref3_RightArea.f hasA
  simp only [ite_d, Option.bind_some, decide_eq_true_eq]
  congr 1
  simp only [decide_eq_decide]
  omega
theorem refBefore_f (a b : S30) : whittleref3_Before.f a.f0 a.f1 a.f2 b.f0 b.f1 b.f2 = some (ltC a b) := before_f a b
def idxA (sn : List S46) (c : S30) : Int := if sn.any (fun a => hasA a c) then (sn.findIdx (fun a => hasA a c) : Int) else -1


theorem of1_calls (a : S46) (c : S30) (cb : Nat) (w : World) (hb : w.heap[cb]? = some (.cells #[(.int .i64 c.f0), (.int .i64 c.f1), (.int .i64 c.f2)] 30 (0, 0))) :
    Calls Try.prog 38 #[.agg #[(.int .i64 a.f0), (.int .i64 a.f1), (.int .i64 a.f2), (.int .i64 a.f3), (.int .i64 a.f4)], .pointer (some ⟨cb, 0, none⟩)] w fun e w' => e = .returned (.bool (hasA a c)) ∧ Below w.heap.size w w' := by
  have hu46 := Try.underlying46
  have hu30 := Try.underlying30
  have HB := Aside0.mk (Below.refl w.heap.size w)
  have BKc := Aside0.mk hb
  clear hb
  go_enter Try.func38, Try.ntmps38
  go_wp2_with (first | ((with_reducible refine gate_dst (N := 2) rfl ?_); refine box_event ?hg (N := 2) ?hd (cs := #[(.int .i64 a.f0), (.int .i64 a.f1), (.int .i64 a.f2), (.int .i64 a.f3), (.int .i64 a.f4)]) (t := 46) ?hr ?_; (case hd => rfl); (case hg => rfl); (case hr => first | (go_simp; done) | (go_simp; rfl)); intro ga hg w1 hbox hb; have GEga : Aside0 (w.heap.size ≤ ga) := ⟨by rw [hg]; exact Nat.le_refl _⟩; have n0_ : Aside0 (Below w.heap.size w w1) := ⟨(below_step HB.out hb)⟩; have n1_ : Aside0 (w1.heap[cb]? = some (.cells #[(.int .i64 c.f0), (.int .i64 c.f1), (.int .i64 c.f2)] 30 (0, 0))) := ⟨(blk_below BKc.out hb)⟩; clear HB BKc; have HB := n0_; have BKc := n1_; clear n0_ n1_; have BKga : Aside0 (w1.heap[ga]? = some (.cells #[(.int .i64 a.f0), (.int .i64 a.f1), (.int .i64 a.f2), (.int .i64 a.f3), (.int .i64 a.f4)] 46 (0, 0))) := ⟨hbox⟩; clear hb hbox hg; have hzBKc_0 : w1.cell? ⟨cb, 0, none⟩ = some ((.int .i64 c.f0)) := (blk_cell BKc.out 0).trans rfl; have hfBKc_0 := blk_frozen BKc.out 0; have hzBKc_1 : w1.cell? ⟨cb, 1, none⟩ = some ((.int .i64 c.f1)) := (blk_cell BKc.out 1).trans rfl; have hfBKc_1 := blk_frozen BKc.out 1; have hzBKc_2 : w1.cell? ⟨cb, 2, none⟩ = some ((.int .i64 c.f2)) := (blk_cell BKc.out 2).trans rfl; have hfBKc_2 := blk_frozen BKc.out 2; have hzBKga_0 : w1.cell? ⟨ga, 0, none⟩ = some ((.int .i64 a.f0)) := (blk_cell BKga.out 0).trans rfl; have hfBKga_0 := blk_frozen BKga.out 0; have hzBKga_1 : w1.cell? ⟨ga, 1, none⟩ = some ((.int .i64 a.f1)) := (blk_cell BKga.out 1).trans rfl; have hfBKga_1 := blk_frozen BKga.out 1; have hzBKga_2 : w1.cell? ⟨ga, 2, none⟩ = some ((.int .i64 a.f2)) := (blk_cell BKga.out 2).trans rfl; have hfBKga_2 := blk_frozen BKga.out 2; have hzBKga_3 : w1.cell? ⟨ga, 3, none⟩ = some ((.int .i64 a.f3)) := (blk_cell BKga.out 3).trans rfl; have hfBKga_3 := blk_frozen BKga.out 3; have hzBKga_4 : w1.cell? ⟨ga, 4, none⟩ = some ((.int .i64 a.f4)) := (blk_cell BKga.out 4).trans rfl; have hfBKga_4 := blk_frozen BKga.out 4) | (go_at_call 36; (with_reducible refine (place_Has.calls a.f0 a.f1 a.f2 a.f3 a.f4 c.f0 c.f1 c.f2 (hasA a c) _ (has_f a c)).mono ?_); rintro e w2 ⟨rfl, hb⟩; (try clear hzBKc_0); (try clear hfBKc_0); (try clear hzBKc_1); (try clear hfBKc_1); (try clear hzBKc_2); (try clear hfBKc_2); (try clear hzBKga_0); (try clear hfBKga_0); (try clear hzBKga_1); (try clear hfBKga_1); (try clear hzBKga_2); (try clear hfBKga_2); (try clear hzBKga_3); (try clear hfBKga_3); (try clear hzBKga_4); (try clear hfBKga_4); have n0_ : Aside0 (Below w.heap.size w w2) := ⟨(below_step HB.out hb)⟩; have n1_ : Aside0 (w2.heap[cb]? = some (.cells #[(.int .i64 c.f0), (.int .i64 c.f1), (.int .i64 c.f2)] 30 (0, 0))) := ⟨(blk_below BKc.out hb)⟩; have n2_ : Aside0 (w2.heap[ga]? = some (.cells #[(.int .i64 a.f0), (.int .i64 a.f1), (.int .i64 a.f2), (.int .i64 a.f3), (.int .i64 a.f4)] 46 (0, 0))) := ⟨(blk_below BKga.out hb)⟩; clear HB BKc BKga; have HB := n0_; have BKc := n1_; have BKga := n2_; clear n0_ n1_ n2_; clear hb))
  go_ret
  exact ⟨rfl, HB.out⟩

theorem idx_mono {sn : List S46} {c : S30} {i : Nat} (hi : i < sn.length) (h : hasA (sn[i]) c = true) (hp : ∀ j (hj : j < i), hasA (sn[j]'(by omega)) c = false) : idxA sn c = (i : Int) := by
  have h1 : sn.findIdx (fun a => hasA a c) = i := (List.findIdx_eq hi).2 ⟨h, fun j hj => hp j hj⟩
  unfold idxA
  rw [if_pos (List.any_eq_true.2 ⟨sn[i], List.getElem_mem hi, h⟩), h1]
theorem idx_none {sn : List S46} {c : S30} (hp : ∀ j (hj : j < sn.length), hasA sn[j] c = false) : idxA sn c = -1 := by
  unfold idxA
  rw [if_neg]
  intro h
  obtain ⟨a, ha, hh⟩ := List.any_eq_true.1 h
  obtain ⟨j, hj, rfl⟩ := List.getElem_of_mem ha
  rw [hp j hj] at hh
  cases hh
theorem rd46 (sn : List S46) (i : Nat) (hi : i < sn.length) : rd_T46 sn (i : Int) = sn[i] := by
  unfold rd_T46
  rw [Int.toNat_natCast, List.getD_eq_getElem?_getD, List.getElem?_eq_getElem hi]; rfl
theorem idx_calls (sn : List S46) (c : S30) (cb : Nat) (A : Option Addr) (cp : Nat) (w : World) (hb : w.heap[cb]? = some (.cells #[(.int .i64 c.f0), (.int .i64 c.f1), (.int .i64 c.f2)] 30 (0, 0))) (hC : Kd.C k46 w A sn.length sn) (hl : sn.length ≤ 1000000) :
    Calls Try.prog 44 #[.slice A sn.length cp, .func (.func 38) #[] #[.pointer (some ⟨cb, 0, none⟩)]] w fun e w' => e = .returned (.int .i64 (idxA sn c)) ∧ Below w.heap.size w w' := by
  have hu46 := Try.underlying46
  have hu39 := Try.underlying39
  have HB := Aside0.mk (Below.refl w.heap.size w)
  have BKc := Aside0.mk hb
  have HC := Aside0.mk hC
  have HLN := Aside0.mk hl
  clear hb hC hl
  go_enter Try.func44, Try.ntmps44
  go_wp2
  go_loopw [8] (fun v8 wr => ∃ i : Nat, v8 = .int .i64 (i : Int) ∧ Aside0 (i ≤ sn.length) ∧ Aside0 (∀ j (hj : j < i) (hj2 : j < sn.length), hasA (sn[j]) c = false) ∧ Aside0 (Below w.heap.size w wr)) (fun v8 _ => sn.length - (intOf v8).toNat)
  case atStart => exact ⟨0, rfl, ⟨by omega⟩, ⟨fun j hj => by omega⟩, HB⟩
  case round =>
    clear HB
    obtain ⟨i, rfl, HI, HP, HB⟩ := hrel
    have hi := HI.out
    have hlen := HLN.out
    by_cases hil : i < sn.length
    · have hcb : decide ((i : Int) < (sn.length : Int)) = true := decide_eq_true (by omega)
      have hic : ((i : Int) < (sn.length : Int)) = True := eq_true (by omega)
      have hi0 : ((0 : Int) ≤ (i : Int)) = True := eq_true (by omega)
      have hw1 : IntKind.i64.wrap ((i : Int) + 1) = (i : Int) + 1 := by rw [IntKind.wrap_i64]; omega
      have HB1 := HB.out
      obtain ⟨ad, ea, h0, h1, h2, h3, h4⟩ := at_T46 (Kd.C_below HC.out HB1) (i : Int) (by omega) (by omega)
      cases ea
      rw [rd46 sn i hil] at h0 h1 h2 h3 h4
      simp only [Int.toNat_natCast] at h0 h1 h2 h3 h4
      have HBKr := Aside0.mk (blk_below BKc.out HB1)
      clear HB1
      obtain ⟨a, ha⟩ : ∃ a, a = sn[i] := ⟨_, rfl⟩
      rw [← ha] at h0 h1 h2 h3 h4
      have HA := Aside0.mk ha
      clear ha
      go_wp2_with (go_at_call 38; (with_reducible refine (of1_calls a c cb _ HBKr.out).mono ?_); rintro e w2 ⟨rfl, hb⟩; have n0_ : Aside0 (Below w.heap.size w w2) := ⟨below_step HB.out hb⟩; clear HB hb; have HB := n0_; clear n0_)
      · have hh : hasA a c = true := by assumption
        go_ret
        refine ⟨?_, HB.out⟩
        show Ending.returned (.int .i64 (i : Int)) = _
        rw [idx_mono hil (by rw [← HA.out]; exact hh) (fun j hj => HP.out j hj (by omega))]
      · have hh : hasA a c = false := by first | assumption | (apply Bool.eq_false_iff.2; assumption)
        go_roundw
        case measure => simp [intOf]; omega
        case rel =>
          refine ⟨i + 1, rfl, ⟨by omega⟩, ⟨fun j hj hj2 => ?_⟩, HB⟩
          by_cases e : j = i
          · subst e; rw [← HA.out]; exact hh
          · exact HP.out j (by omega) hj2
    · obtain rfl : i = sn.length := by omega
      have hcb : decide (((sn.length : Nat) : Int) < (sn.length : Int)) = false := decide_eq_false (by omega)
      have hic : (((sn.length : Nat) : Int) < (sn.length : Int)) = False := eq_false (by omega)
      clear hi HI
      go_wp2
      go_ret
      refine ⟨?_, HB.out⟩
      show Ending.returned (.int .i64 (-1)) = _
      rw [idx_none (fun j hj => HP.out j hj hj)]
theorem contains_calls (sn : List S46) (c : S30) (cb : Nat) (A : Option Addr) (cp : Nat) (w : World) (hb : w.heap[cb]? = some (.cells #[(.int .i64 c.f0), (.int .i64 c.f1), (.int .i64 c.f2)] 30 (0, 0))) (hC : Kd.C k46 w A sn.length sn) (hl : sn.length ≤ 1000000) :
    Calls Try.prog 37 #[.slice A sn.length cp, .func (.func 38) #[] #[.pointer (some ⟨cb, 0, none⟩)]] w fun e w' => e = .returned (.bool (sn.any (fun a => hasA a c))) ∧ Below w.heap.size w w' := by
  have BKc := Aside0.mk hb
  have HC := Aside0.mk hC
  have HLN := Aside0.mk hl
  clear hb hC hl
  go_enter Try.func37, Try.ntmps37
  go_wp2_with (go_at_call 44; (with_reducible refine (idx_calls sn c cb A cp _ BKc.out HC.out HLN.out).mono ?_); rintro e w2 ⟨rfl, hb⟩; have HB := Aside0.mk hb; clear hb)
  go_ret
  refine ⟨?_, HB.out⟩
  unfold idxA
  cases h : sn.any (fun a => hasA a c) with
  | true => rw [if_pos rfl]; congr 1
  | false => rfl

end Go.Proofs.Ytgkbcgmcpbbneaa.Q
