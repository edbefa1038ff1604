-- by wprint.py, out of the translation
import Derived.Test.YtceldhkfidmfkaaDoorLx0
import Derived.Test.YtceldhkfidmfkaaDoorLx1
import Derived.Test.YtceldhkfidmfkaaDoorLx13
import Derived.Test.YtceldhkfidmfkaaDoorLx14
import Derived.Test.YtceldhkfidmfkaaDoorLaid
namespace Go.Proofs.YtceldhkfidmfkaaDoor.L
open Go.RowKit Go.Proofs.YtceldhkfidmfkaaDoorW.PrintWords Go.Proofs.YtceldhkfidmfkaaDoorW.PrintLast Go.Proofs.YtceldhkfidmfkaaDoorW.PrintMore
attribute [local go_sem] max2_int min2_int max_two min_two max_three min_three max_four min_four   -- for this text's walks alone
set_option linter.unusedVariables false
set_option linter.unusedSimpArgs false

attribute [local go_sem high] eqA31
/-! ### whittlelaw4_able: function 11 -/
def whittlelaw4_able.f (k : Nat)  : Option (Bool) := (lex_Scan.f k (⟨#[65, 49, 43, 34, 120, 34]⟩ : ByteArray)).bind fun bt196 => (if bt196.2.1 = 0 then (if bt196.2.2 = 0 then (if (bt196.1.length : Int) = 3 then (if 0 < (bt196.1.length : Int) then (if (((rd_T31 bt196.1 0).f0) == 3 && ((((rd_T31 bt196.1 0).f1).toList) == ([65, 49] : List UInt8) && (((rd_T31 bt196.1 0).f2) == 0))) = true then (if 1 < (bt196.1.length : Int) then (if (((rd_T31 bt196.1 1).f0) == 5 && ((((rd_T31 bt196.1 1).f1).toList) == ([43] : List UInt8) && (((rd_T31 bt196.1 1).f2) == 2))) = true then (if 2 < (bt196.1.length : Int) then (if (((rd_T31 bt196.1 2).f0) == 2 && ((((rd_T31 bt196.1 2).f1).toList) == ([120] : List UInt8) && (((rd_T31 bt196.1 2).f2) == 3))) = true then ((lex_Text.f bt196.1).bind fun t204 => (some (t204.toList == ([65, 49, 32, 43, 32, 34, 120, 34] : List UInt8)))) else (some false)) else (none)) else (some false)) else (none)) else (some false)) else (none)) else (some false)) else (some false)) else (some false))
theorem whittlelaw4_able.mono : ∀ k, LeO (whittlelaw4_able.f k ) (whittlelaw4_able.f (k + 1) ) := by
  intro  k
  unfold whittlelaw4_able.f
  repeat' first
      | (with_reducible exact lex_Scan.mono _ _)
      | (with_reducible exact LeO.refl _)
      | (with_reducible exact LeO.none _)
      | (with_reducible refine LeO.ite ?_ ?_)
      | (with_reducible refine LeO.bind ?_ (fun _ => ?_))
      | exact lex_Scan.mono _ _
      | exact LeO.none _
      | refine LeO.ite ?_ ?_
      | refine LeO.bind ?_ (fun _ => ?_)
set_option maxHeartbeats 8000000 in
set_option maxRecDepth 100000 in
theorem whittlelaw4_able.calls (k : Nat)  (r : Bool) (w : World) (hG : LaidG w) (h : whittlelaw4_able.f k  = some r) :
    Calls Tryd.prog 11 #[] w fun e w' => e = .returned (.bool r) ∧ Below w.heap.size w w' := by
  have HGL := Aside0.mk hG
  clear hG
  have hu31 := Tryd.underlying31
  have HB := Aside0.mk (Below.refl w.heap.size w)
  have H : ((lex_Scan.f k (⟨#[65, 49, 43, 34, 120, 34]⟩ : ByteArray)).bind fun bt196 => (if bt196.2.1 = 0 then (if bt196.2.2 = 0 then (if (bt196.1.length : Int) = 3 then (if 0 < (bt196.1.length : Int) then (if (((rd_T31 bt196.1 0).f0) == 3 && ((((rd_T31 bt196.1 0).f1).toList) == ([65, 49] : List UInt8) && (((rd_T31 bt196.1 0).f2) == 0))) = true then (if 1 < (bt196.1.length : Int) then (if (((rd_T31 bt196.1 1).f0) == 5 && ((((rd_T31 bt196.1 1).f1).toList) == ([43] : List UInt8) && (((rd_T31 bt196.1 1).f2) == 2))) = true then (if 2 < (bt196.1.length : Int) then (if (((rd_T31 bt196.1 2).f0) == 2 && ((((rd_T31 bt196.1 2).f1).toList) == ([120] : List UInt8) && (((rd_T31 bt196.1 2).f2) == 3))) = true then ((lex_Text.f bt196.1).bind fun t204 => (some (t204.toList == ([65, 49, 32, 43, 32, 34, 120, 34] : List UInt8)))) else (some false)) else (none)) else (some false)) else (none)) else (some false)) else (none)) else (some false)) else (some false)) else (some false))) = some r := h
  clear h
  replace H := Option.bind_eq_some_iff.mp H
  obtain ⟨⟨t196, t197, t198⟩, A10, H⟩ := H
  replace H : (if t197 = 0 then (if t198 = 0 then (if (t196.length : Int) = 3 then (if 0 < (t196.length : Int) then (if (((rd_T31 t196 0).f0) == 3 && ((((rd_T31 t196 0).f1).toList) == ([65, 49] : List UInt8) && (((rd_T31 t196 0).f2) == 0))) = true then (if 1 < (t196.length : Int) then (if (((rd_T31 t196 1).f0) == 5 && ((((rd_T31 t196 1).f1).toList) == ([43] : List UInt8) && (((rd_T31 t196 1).f2) == 2))) = true then (if 2 < (t196.length : Int) then (if (((rd_T31 t196 2).f0) == 2 && ((((rd_T31 t196 2).f1).toList) == ([120] : List UInt8) && (((rd_T31 t196 2).f2) == 3))) = true then ((lex_Text.f t196).bind fun t204 => (some (t204.toList == ([65, 49, 32, 43, 32, 34, 120, 34] : List UInt8)))) else (some false)) else (none)) else (some false)) else (none)) else (some false)) else (none)) else (some false)) else (some false)) else (some false)) = some r := H
  have A1 := Aside0.mk A10
  clear A10
  by_cases c2 : t197 = 0
  · rw [if_pos c2] at H
    have c2b0 : (t197 == 0) = true := beq_iff_eq.mpr c2
    have c2b1 : (t197 != 0) = false := bne_eq_false_iff_eq.mpr c2
    clear c2
    by_cases c3 : t198 = 0
    · rw [if_pos c3] at H
      have c3b0 : (t198 == 0) = true := beq_iff_eq.mpr c3
      have c3b1 : (t198 != 0) = false := bne_eq_false_iff_eq.mpr c3
      clear c3
      by_cases c4 : (t196.length : Int) = 3
      · rw [if_pos c4] at H
        have c4b0 : ((t196.length : Int) == 3) = true := beq_iff_eq.mpr c4
        have c4b1 : ((t196.length : Int) != 3) = false := bne_eq_false_iff_eq.mpr c4
        clear c4
        by_cases c5 : 0 < (t196.length : Int)
        · rw [if_pos c5] at H
          have c5b0 : decide (0 < (t196.length : Int)) = true := decide_eq_true c5
          have c5b1 : decide (0 < t196.length) = true := decide_eq_true (by omega)
          clear c5
          by_cases c6 : (((rd_T31 t196 0).f0) == 3 && ((((rd_T31 t196 0).f1).toList) == ([65, 49] : List UInt8) && (((rd_T31 t196 0).f2) == 0))) = true
          · rw [if_pos c6] at H
            have c6b0 : (((rd_T31 t196 0).f0) == 3 && ((((rd_T31 t196 0).f1).toList) == ([65, 49] : List UInt8) && (((rd_T31 t196 0).f2) == 0))) = true := c6
            (try (have c6b1 : decide (((rd_T31 t196 0).f0) = 3 && ((((rd_T31 t196 0).f1).toList) == ([65, 49] : List UInt8) && (((rd_T31 t196 0).f2) == 0))) = true := by simpa using c6))
            (try (have c6b2 : (((rd_T31 t196 0).f0) == 3 && ((((rd_T31 t196 0).f1).toList) == ([65, 49] : List UInt8) && (((rd_T31 t196 0).f2) == 0))) = true := by simpa using c6))
            clear c6
            by_cases c7 : 1 < (t196.length : Int)
            · rw [if_pos c7] at H
              have c7b0 : decide (1 < (t196.length : Int)) = true := decide_eq_true c7
              have c7b1 : decide (1 < t196.length) = true := decide_eq_true (by omega)
              clear c7
              by_cases c8 : (((rd_T31 t196 1).f0) == 5 && ((((rd_T31 t196 1).f1).toList) == ([43] : List UInt8) && (((rd_T31 t196 1).f2) == 2))) = true
              · rw [if_pos c8] at H
                have c8b0 : (((rd_T31 t196 1).f0) == 5 && ((((rd_T31 t196 1).f1).toList) == ([43] : List UInt8) && (((rd_T31 t196 1).f2) == 2))) = true := c8
                (try (have c8b1 : decide (((rd_T31 t196 1).f0) = 5 && ((((rd_T31 t196 1).f1).toList) == ([43] : List UInt8) && (((rd_T31 t196 1).f2) == 2))) = true := by simpa using c8))
                (try (have c8b2 : (((rd_T31 t196 1).f0) == 5 && ((((rd_T31 t196 1).f1).toList) == ([43] : List UInt8) && (((rd_T31 t196 1).f2) == 2))) = true := by simpa using c8))
                clear c8
                by_cases c9 : 2 < (t196.length : Int)
                · rw [if_pos c9] at H
                  have c9b0 : decide (2 < (t196.length : Int)) = true := decide_eq_true c9
                  have c9b1 : decide (2 < t196.length) = true := decide_eq_true (by omega)
                  clear c9
                  by_cases c10 : (((rd_T31 t196 2).f0) == 2 && ((((rd_T31 t196 2).f1).toList) == ([120] : List UInt8) && (((rd_T31 t196 2).f2) == 3))) = true
                  · rw [if_pos c10] at H
                    have c10b0 : (((rd_T31 t196 2).f0) == 2 && ((((rd_T31 t196 2).f1).toList) == ([120] : List UInt8) && (((rd_T31 t196 2).f2) == 3))) = true := c10
                    (try (have c10b1 : decide (((rd_T31 t196 2).f0) = 2 && ((((rd_T31 t196 2).f1).toList) == ([120] : List UInt8) && (((rd_T31 t196 2).f2) == 3))) = true := by simpa using c10))
                    (try (have c10b2 : (((rd_T31 t196 2).f0) == 2 && ((((rd_T31 t196 2).f1).toList) == ([120] : List UInt8) && (((rd_T31 t196 2).f2) == 3))) = true := by simpa using c10))
                    clear c10
                    replace H := Option.bind_eq_some_iff.mp H
                    obtain ⟨t204, A110, H⟩ := H
                    replace H : (some (t204.toList == ([65, 49, 32, 43, 32, 34, 120, 34] : List UInt8))) = some r := H
                    have A11 := Aside0.mk A110
                    clear A110
                    obtain rfl := Option.some.inj H
                    go_enter Tryd.func11, Tryd.ntmps11
                    go_wp2_with (first | ((with_reducible refine gate_callee (f := 9) rfl ?_); refine goesL_ (some 5) rfl rfl Tryd.func9 (by kernel_rfl) rfl #[.string (⟨#[65, 49, 43, 34, 120, 34]⟩ : ByteArray)] rfl (by (try simp only [List.map_toArray, List.map_cons, List.map_nil]); first | done | rfl | (simp only [List.length_drop, List.length_take]; rfl)) ?_; (with_reducible refine (lex_Scan.calls k (⟨#[65, 49, 43, 34, 120, 34]⟩ : ByteArray) t196 t197 t198 _ (LaidG.below HGL.out (by repeat (first | (with_reducible first | exact HB.out | apply below_alloc | apply pw_below_drewN | apply below_drew1) | exact HB.out))) A1.out).mono ?_); rintro e w12 ⟨v199, rfl, ho0, hb⟩; refine ⟨_, rfl, ?_⟩; have n0_ := Aside0.mk (Kd.R_lower ho0 (below_size (by repeat (first | (with_reducible first | exact HB.out | apply below_alloc | apply pw_below_drewN | apply below_drew1) | exact HB.out)))); have n1_ := Aside0.mk (below_step (by repeat (first | (with_reducible first | exact HB.out | apply below_alloc | apply pw_below_drewN | apply below_drew1) | exact HB.out)) hb); clear HB; have HO200 := n0_; have HB := n1_; clear n0_ n1_; (try clear hb); (try clear hb2); (try clear hk); (try clear hi); (try clear ho0); obtain ⟨Ao13, co13, eo13⟩ := Kd.R_slice HO200.out; subst eo13; have p201 : 0 ≤ (0 : Int) := (by omega); have q201 : 0 < (t196.length : Int) := of_decide_eq_true (by first | (with_reducible assumption) | assumption); obtain ⟨ad201, e201, hx201_0, hx201_1, hx201_2⟩ := at_T31 (Kd.R_reads' HO200.out).2.2 0 p201 q201; cases e201; have qi201 : (0 < t196.length) = True := eq_true (by omega); (try rw [show ((0 : Int)).toNat = 0 from rfl] at hx201_0); (try rw [show 0 * 3 = 0 from rfl] at hx201_0); (try rw [Addr.add_zero'] at hx201_0); (try rw [show ((0 : Int)).toNat = 0 from rfl] at hx201_1); (try rw [show 0 * 3 = 0 from rfl] at hx201_1); (try rw [Addr.add_zero'] at hx201_1); (try rw [show ((0 : Int)).toNat = 0 from rfl] at hx201_2); (try rw [show 0 * 3 = 0 from rfl] at hx201_2); (try rw [Addr.add_zero'] at hx201_2); replace p201 := eq_true p201; replace q201 := eq_true q201; have p202 : 0 ≤ (1 : Int) := (by omega); have q202 : 1 < (t196.length : Int) := of_decide_eq_true (by first | (with_reducible assumption) | assumption); obtain ⟨ad202, e202, hx202_0, hx202_1, hx202_2⟩ := at_T31 (Kd.R_reads' HO200.out).2.2 1 p202 q202; obtain rfl : ad201 = ad202 := (by injection e202); (try simp only [show (1 : Int).toNat = 1 from rfl, Nat.reduceMul, Nat.reduceEqDiff, Go.Addr.add, ↓reduceIte] at hx202_0); (try simp only [show (1 : Int).toNat = 1 from rfl, Nat.reduceMul, Nat.reduceEqDiff, Go.Addr.add, ↓reduceIte] at hx202_1); (try simp only [show (1 : Int).toNat = 1 from rfl, Nat.reduceMul, Nat.reduceEqDiff, Go.Addr.add, ↓reduceIte] at hx202_2); have qi202 : (1 < t196.length) = True := eq_true (by omega); (try rw [show ((1 : Int)).toNat = 1 from rfl] at hx202_0); (try rw [show 1 * 3 = 3 from rfl] at hx202_0); (try rw [show ((1 : Int)).toNat = 1 from rfl] at hx202_1); (try rw [show 1 * 3 = 3 from rfl] at hx202_1); (try rw [show ((1 : Int)).toNat = 1 from rfl] at hx202_2); (try rw [show 1 * 3 = 3 from rfl] at hx202_2); replace p202 := eq_true p202; replace q202 := eq_true q202; have p203 : 0 ≤ (2 : Int) := (by omega); have q203 : 2 < (t196.length : Int) := of_decide_eq_true (by first | (with_reducible assumption) | assumption); obtain ⟨ad203, e203, hx203_0, hx203_1, hx203_2⟩ := at_T31 (Kd.R_reads' HO200.out).2.2 2 p203 q203; obtain rfl : ad201 = ad203 := (by injection e203); (try simp only [show (2 : Int).toNat = 2 from rfl, Nat.reduceMul, Nat.reduceEqDiff, Go.Addr.add, ↓reduceIte] at hx203_0); (try simp only [show (2 : Int).toNat = 2 from rfl, Nat.reduceMul, Nat.reduceEqDiff, Go.Addr.add, ↓reduceIte] at hx203_1); (try simp only [show (2 : Int).toNat = 2 from rfl, Nat.reduceMul, Nat.reduceEqDiff, Go.Addr.add, ↓reduceIte] at hx203_2); have qi203 : (2 < t196.length) = True := eq_true (by omega); (try rw [show ((2 : Int)).toNat = 2 from rfl] at hx203_0); (try rw [show 2 * 3 = 6 from rfl] at hx203_0); (try rw [show ((2 : Int)).toNat = 2 from rfl] at hx203_1); (try rw [show 2 * 3 = 6 from rfl] at hx203_1); (try rw [show ((2 : Int)).toNat = 2 from rfl] at hx203_2); (try rw [show 2 * 3 = 6 from rfl] at hx203_2); replace p203 := eq_true p203; replace q203 := eq_true q203) | (go_at_call 14; (with_reducible refine (lex_Text.calls _ _ t196 t204 _ ?side1 ?side2 (LaidG.below HGL.out (by repeat (first | (with_reducible first | exact HB.out | apply below_alloc | apply pw_below_drewN | apply below_drew1) | exact HB.out))) A11.out).mono ?_); (case side1 => repeat (first | exact (Kd.R_reads' HO200.out).2.2 | (with_reducible refine Kd.C_alloc ?_ _) | (with_reducible refine Kd.C_drewN ?_ _) | (with_reducible refine Kd.C_drew ?_))); (case side2 => exact (Kd.R_reads' HO200.out).2.1); rintro e w14 ⟨rfl, hb⟩; have n0_ := Aside0.mk (Kd.R_below (by (with_reducible repeat (first | apply Kd.R_alloc | apply Kd.R_drewN | apply Kd.R_drew)); exact HO200.out) hb); have n1_ := Aside0.mk (below_step (by repeat (first | (with_reducible first | exact HB.out | apply below_alloc | apply pw_below_drewN | apply below_drew1) | exact HB.out)) hb); clear HO200; clear HB; have HO200 := n0_; have HB := n1_; clear n0_ n1_; (try clear hb); (try clear hb2); (try clear hk); (try clear hi)))
                    go_ret
                    exact ⟨by first | rfl | (simp [errW_none, errW_some] <;> rfl) | (simp [*, errW_none, errW_some] <;> rfl), by repeat (first | (with_reducible first | exact HB.out | apply below_alloc | apply pw_below_drewN | apply below_drew1) | exact HB.out)⟩
                  · rw [if_neg c10] at H
                    have c10b0 : (((rd_T31 t196 2).f0) == 2 && ((((rd_T31 t196 2).f1).toList) == ([120] : List UInt8) && (((rd_T31 t196 2).f2) == 3))) = false := by simpa using c10
                    (try (have c10b1 : decide (((rd_T31 t196 2).f0) = 2 && ((((rd_T31 t196 2).f1).toList) == ([120] : List UInt8) && (((rd_T31 t196 2).f2) == 3))) = false := by simpa using c10))
                    (try (have c10b2 : (((rd_T31 t196 2).f0) == 2 && ((((rd_T31 t196 2).f1).toList) == ([120] : List UInt8) && (((rd_T31 t196 2).f2) == 3))) = false := by simpa using c10))
                    (try (have c10b3 : ¬ (((rd_T31 t196 2).f0) = 2 && ((((rd_T31 t196 2).f1).toList) == ([120] : List UInt8) && (((rd_T31 t196 2).f2) == 3))) := by simpa using c10))
                    clear c10
                    obtain rfl := Option.some.inj H
                    go_enter Tryd.func11, Tryd.ntmps11
                    go_wp2_with (first | ((with_reducible refine gate_callee (f := 9) rfl ?_); refine goesL_ (some 5) rfl rfl Tryd.func9 (by kernel_rfl) rfl #[.string (⟨#[65, 49, 43, 34, 120, 34]⟩ : ByteArray)] rfl (by (try simp only [List.map_toArray, List.map_cons, List.map_nil]); first | done | rfl | (simp only [List.length_drop, List.length_take]; rfl)) ?_; (with_reducible refine (lex_Scan.calls k (⟨#[65, 49, 43, 34, 120, 34]⟩ : ByteArray) t196 t197 t198 _ (LaidG.below HGL.out (by repeat (first | (with_reducible first | exact HB.out | apply below_alloc | apply pw_below_drewN | apply below_drew1) | exact HB.out))) A1.out).mono ?_); rintro e w15 ⟨v199, rfl, ho0, hb⟩; refine ⟨_, rfl, ?_⟩; have n0_ := Aside0.mk (Kd.R_lower ho0 (below_size (by repeat (first | (with_reducible first | exact HB.out | apply below_alloc | apply pw_below_drewN | apply below_drew1) | exact HB.out)))); have n1_ := Aside0.mk (below_step (by repeat (first | (with_reducible first | exact HB.out | apply below_alloc | apply pw_below_drewN | apply below_drew1) | exact HB.out)) hb); clear HB; have HO200 := n0_; have HB := n1_; clear n0_ n1_; (try clear hb); (try clear hb2); (try clear hk); (try clear hi); (try clear ho0); obtain ⟨Ao16, co16, eo16⟩ := Kd.R_slice HO200.out; subst eo16; have p201 : 0 ≤ (0 : Int) := (by omega); have q201 : 0 < (t196.length : Int) := of_decide_eq_true (by first | (with_reducible assumption) | assumption); obtain ⟨ad201, e201, hx201_0, hx201_1, hx201_2⟩ := at_T31 (Kd.R_reads' HO200.out).2.2 0 p201 q201; cases e201; have qi201 : (0 < t196.length) = True := eq_true (by omega); (try rw [show ((0 : Int)).toNat = 0 from rfl] at hx201_0); (try rw [show 0 * 3 = 0 from rfl] at hx201_0); (try rw [Addr.add_zero'] at hx201_0); (try rw [show ((0 : Int)).toNat = 0 from rfl] at hx201_1); (try rw [show 0 * 3 = 0 from rfl] at hx201_1); (try rw [Addr.add_zero'] at hx201_1); (try rw [show ((0 : Int)).toNat = 0 from rfl] at hx201_2); (try rw [show 0 * 3 = 0 from rfl] at hx201_2); (try rw [Addr.add_zero'] at hx201_2); replace p201 := eq_true p201; replace q201 := eq_true q201; have p202 : 0 ≤ (1 : Int) := (by omega); have q202 : 1 < (t196.length : Int) := of_decide_eq_true (by first | (with_reducible assumption) | assumption); obtain ⟨ad202, e202, hx202_0, hx202_1, hx202_2⟩ := at_T31 (Kd.R_reads' HO200.out).2.2 1 p202 q202; obtain rfl : ad201 = ad202 := (by injection e202); (try simp only [show (1 : Int).toNat = 1 from rfl, Nat.reduceMul, Nat.reduceEqDiff, Go.Addr.add, ↓reduceIte] at hx202_0); (try simp only [show (1 : Int).toNat = 1 from rfl, Nat.reduceMul, Nat.reduceEqDiff, Go.Addr.add, ↓reduceIte] at hx202_1); (try simp only [show (1 : Int).toNat = 1 from rfl, Nat.reduceMul, Nat.reduceEqDiff, Go.Addr.add, ↓reduceIte] at hx202_2); have qi202 : (1 < t196.length) = True := eq_true (by omega); (try rw [show ((1 : Int)).toNat = 1 from rfl] at hx202_0); (try rw [show 1 * 3 = 3 from rfl] at hx202_0); (try rw [show ((1 : Int)).toNat = 1 from rfl] at hx202_1); (try rw [show 1 * 3 = 3 from rfl] at hx202_1); (try rw [show ((1 : Int)).toNat = 1 from rfl] at hx202_2); (try rw [show 1 * 3 = 3 from rfl] at hx202_2); replace p202 := eq_true p202; replace q202 := eq_true q202; have p203 : 0 ≤ (2 : Int) := (by omega); have q203 : 2 < (t196.length : Int) := of_decide_eq_true (by first | (with_reducible assumption) | assumption); obtain ⟨ad203, e203, hx203_0, hx203_1, hx203_2⟩ := at_T31 (Kd.R_reads' HO200.out).2.2 2 p203 q203; obtain rfl : ad201 = ad203 := (by injection e203); (try simp only [show (2 : Int).toNat = 2 from rfl, Nat.reduceMul, Nat.reduceEqDiff, Go.Addr.add, ↓reduceIte] at hx203_0); (try simp only [show (2 : Int).toNat = 2 from rfl, Nat.reduceMul, Nat.reduceEqDiff, Go.Addr.add, ↓reduceIte] at hx203_1); (try simp only [show (2 : Int).toNat = 2 from rfl, Nat.reduceMul, Nat.reduceEqDiff, Go.Addr.add, ↓reduceIte] at hx203_2); have qi203 : (2 < t196.length) = True := eq_true (by omega); (try rw [show ((2 : Int)).toNat = 2 from rfl] at hx203_0); (try rw [show 2 * 3 = 6 from rfl] at hx203_0); (try rw [show ((2 : Int)).toNat = 2 from rfl] at hx203_1); (try rw [show 2 * 3 = 6 from rfl] at hx203_1); (try rw [show ((2 : Int)).toNat = 2 from rfl] at hx203_2); (try rw [show 2 * 3 = 6 from rfl] at hx203_2); replace p203 := eq_true p203; replace q203 := eq_true q203))
                    go_ret
                    exact ⟨by first | rfl | (simp [errW_none, errW_some] <;> rfl) | (simp [*, errW_none, errW_some] <;> rfl), by repeat (first | (with_reducible first | exact HB.out | apply below_alloc | apply pw_below_drewN | apply below_drew1) | exact HB.out)⟩
                · rw [if_neg c9] at H
                  exact absurd H (by simp)
              · rw [if_neg c8] at H
                have c8b0 : (((rd_T31 t196 1).f0) == 5 && ((((rd_T31 t196 1).f1).toList) == ([43] : List UInt8) && (((rd_T31 t196 1).f2) == 2))) = false := by simpa using c8
                (try (have c8b1 : decide (((rd_T31 t196 1).f0) = 5 && ((((rd_T31 t196 1).f1).toList) == ([43] : List UInt8) && (((rd_T31 t196 1).f2) == 2))) = false := by simpa using c8))
                (try (have c8b2 : (((rd_T31 t196 1).f0) == 5 && ((((rd_T31 t196 1).f1).toList) == ([43] : List UInt8) && (((rd_T31 t196 1).f2) == 2))) = false := by simpa using c8))
                (try (have c8b3 : ¬ (((rd_T31 t196 1).f0) = 5 && ((((rd_T31 t196 1).f1).toList) == ([43] : List UInt8) && (((rd_T31 t196 1).f2) == 2))) := by simpa using c8))
                clear c8
                obtain rfl := Option.some.inj H
                go_enter Tryd.func11, Tryd.ntmps11
                go_wp2_with (first | ((with_reducible refine gate_callee (f := 9) rfl ?_); refine goesL_ (some 5) rfl rfl Tryd.func9 (by kernel_rfl) rfl #[.string (⟨#[65, 49, 43, 34, 120, 34]⟩ : ByteArray)] rfl (by (try simp only [List.map_toArray, List.map_cons, List.map_nil]); first | done | rfl | (simp only [List.length_drop, List.length_take]; rfl)) ?_; (with_reducible refine (lex_Scan.calls k (⟨#[65, 49, 43, 34, 120, 34]⟩ : ByteArray) t196 t197 t198 _ (LaidG.below HGL.out (by repeat (first | (with_reducible first | exact HB.out | apply below_alloc | apply pw_below_drewN | apply below_drew1) | exact HB.out))) A1.out).mono ?_); rintro e w17 ⟨v199, rfl, ho0, hb⟩; refine ⟨_, rfl, ?_⟩; have n0_ := Aside0.mk (Kd.R_lower ho0 (below_size (by repeat (first | (with_reducible first | exact HB.out | apply below_alloc | apply pw_below_drewN | apply below_drew1) | exact HB.out)))); have n1_ := Aside0.mk (below_step (by repeat (first | (with_reducible first | exact HB.out | apply below_alloc | apply pw_below_drewN | apply below_drew1) | exact HB.out)) hb); clear HB; have HO200 := n0_; have HB := n1_; clear n0_ n1_; (try clear hb); (try clear hb2); (try clear hk); (try clear hi); (try clear ho0); obtain ⟨Ao18, co18, eo18⟩ := Kd.R_slice HO200.out; subst eo18; have p201 : 0 ≤ (0 : Int) := (by omega); have q201 : 0 < (t196.length : Int) := of_decide_eq_true (by first | (with_reducible assumption) | assumption); obtain ⟨ad201, e201, hx201_0, hx201_1, hx201_2⟩ := at_T31 (Kd.R_reads' HO200.out).2.2 0 p201 q201; cases e201; have qi201 : (0 < t196.length) = True := eq_true (by omega); (try rw [show ((0 : Int)).toNat = 0 from rfl] at hx201_0); (try rw [show 0 * 3 = 0 from rfl] at hx201_0); (try rw [Addr.add_zero'] at hx201_0); (try rw [show ((0 : Int)).toNat = 0 from rfl] at hx201_1); (try rw [show 0 * 3 = 0 from rfl] at hx201_1); (try rw [Addr.add_zero'] at hx201_1); (try rw [show ((0 : Int)).toNat = 0 from rfl] at hx201_2); (try rw [show 0 * 3 = 0 from rfl] at hx201_2); (try rw [Addr.add_zero'] at hx201_2); replace p201 := eq_true p201; replace q201 := eq_true q201; have p202 : 0 ≤ (1 : Int) := (by omega); have q202 : 1 < (t196.length : Int) := of_decide_eq_true (by first | (with_reducible assumption) | assumption); obtain ⟨ad202, e202, hx202_0, hx202_1, hx202_2⟩ := at_T31 (Kd.R_reads' HO200.out).2.2 1 p202 q202; obtain rfl : ad201 = ad202 := (by injection e202); (try simp only [show (1 : Int).toNat = 1 from rfl, Nat.reduceMul, Nat.reduceEqDiff, Go.Addr.add, ↓reduceIte] at hx202_0); (try simp only [show (1 : Int).toNat = 1 from rfl, Nat.reduceMul, Nat.reduceEqDiff, Go.Addr.add, ↓reduceIte] at hx202_1); (try simp only [show (1 : Int).toNat = 1 from rfl, Nat.reduceMul, Nat.reduceEqDiff, Go.Addr.add, ↓reduceIte] at hx202_2); have qi202 : (1 < t196.length) = True := eq_true (by omega); (try rw [show ((1 : Int)).toNat = 1 from rfl] at hx202_0); (try rw [show 1 * 3 = 3 from rfl] at hx202_0); (try rw [show ((1 : Int)).toNat = 1 from rfl] at hx202_1); (try rw [show 1 * 3 = 3 from rfl] at hx202_1); (try rw [show ((1 : Int)).toNat = 1 from rfl] at hx202_2); (try rw [show 1 * 3 = 3 from rfl] at hx202_2); replace p202 := eq_true p202; replace q202 := eq_true q202))
                go_ret
                exact ⟨by first | rfl | (simp [errW_none, errW_some] <;> rfl) | (simp [*, errW_none, errW_some] <;> rfl), by repeat (first | (with_reducible first | exact HB.out | apply below_alloc | apply pw_below_drewN | apply below_drew1) | exact HB.out)⟩
            · rw [if_neg c7] at H
              exact absurd H (by simp)
          · rw [if_neg c6] at H
            have c6b0 : (((rd_T31 t196 0).f0) == 3 && ((((rd_T31 t196 0).f1).toList) == ([65, 49] : List UInt8) && (((rd_T31 t196 0).f2) == 0))) = false := by simpa using c6
            (try (have c6b1 : decide (((rd_T31 t196 0).f0) = 3 && ((((rd_T31 t196 0).f1).toList) == ([65, 49] : List UInt8) && (((rd_T31 t196 0).f2) == 0))) = false := by simpa using c6))
            (try (have c6b2 : (((rd_T31 t196 0).f0) == 3 && ((((rd_T31 t196 0).f1).toList) == ([65, 49] : List UInt8) && (((rd_T31 t196 0).f2) == 0))) = false := by simpa using c6))
            (try (have c6b3 : ¬ (((rd_T31 t196 0).f0) = 3 && ((((rd_T31 t196 0).f1).toList) == ([65, 49] : List UInt8) && (((rd_T31 t196 0).f2) == 0))) := by simpa using c6))
            clear c6
            obtain rfl := Option.some.inj H
            go_enter Tryd.func11, Tryd.ntmps11
            go_wp2_with (first | ((with_reducible refine gate_callee (f := 9) rfl ?_); refine goesL_ (some 5) rfl rfl Tryd.func9 (by kernel_rfl) rfl #[.string (⟨#[65, 49, 43, 34, 120, 34]⟩ : ByteArray)] rfl (by (try simp only [List.map_toArray, List.map_cons, List.map_nil]); first | done | rfl | (simp only [List.length_drop, List.length_take]; rfl)) ?_; (with_reducible refine (lex_Scan.calls k (⟨#[65, 49, 43, 34, 120, 34]⟩ : ByteArray) t196 t197 t198 _ (LaidG.below HGL.out (by repeat (first | (with_reducible first | exact HB.out | apply below_alloc | apply pw_below_drewN | apply below_drew1) | exact HB.out))) A1.out).mono ?_); rintro e w19 ⟨v199, rfl, ho0, hb⟩; refine ⟨_, rfl, ?_⟩; have n0_ := Aside0.mk (Kd.R_lower ho0 (below_size (by repeat (first | (with_reducible first | exact HB.out | apply below_alloc | apply pw_below_drewN | apply below_drew1) | exact HB.out)))); have n1_ := Aside0.mk (below_step (by repeat (first | (with_reducible first | exact HB.out | apply below_alloc | apply pw_below_drewN | apply below_drew1) | exact HB.out)) hb); clear HB; have HO200 := n0_; have HB := n1_; clear n0_ n1_; (try clear hb); (try clear hb2); (try clear hk); (try clear hi); (try clear ho0); obtain ⟨Ao20, co20, eo20⟩ := Kd.R_slice HO200.out; subst eo20; have p201 : 0 ≤ (0 : Int) := (by omega); have q201 : 0 < (t196.length : Int) := of_decide_eq_true (by first | (with_reducible assumption) | assumption); obtain ⟨ad201, e201, hx201_0, hx201_1, hx201_2⟩ := at_T31 (Kd.R_reads' HO200.out).2.2 0 p201 q201; cases e201; have qi201 : (0 < t196.length) = True := eq_true (by omega); (try rw [show ((0 : Int)).toNat = 0 from rfl] at hx201_0); (try rw [show 0 * 3 = 0 from rfl] at hx201_0); (try rw [Addr.add_zero'] at hx201_0); (try rw [show ((0 : Int)).toNat = 0 from rfl] at hx201_1); (try rw [show 0 * 3 = 0 from rfl] at hx201_1); (try rw [Addr.add_zero'] at hx201_1); (try rw [show ((0 : Int)).toNat = 0 from rfl] at hx201_2); (try rw [show 0 * 3 = 0 from rfl] at hx201_2); (try rw [Addr.add_zero'] at hx201_2); replace p201 := eq_true p201; replace q201 := eq_true q201))
            go_ret
            exact ⟨by first | rfl | (simp [errW_none, errW_some] <;> rfl) | (simp [*, errW_none, errW_some] <;> rfl), by repeat (first | (with_reducible first | exact HB.out | apply below_alloc | apply pw_below_drewN | apply below_drew1) | exact HB.out)⟩
        · rw [if_neg c5] at H
          exact absurd H (by simp)
      · rw [if_neg c4] at H
        have c4b0 : ((t196.length : Int) == 3) = false := beq_eq_false_iff_ne.mpr c4
        have c4b1 : ((t196.length : Int) != 3) = true := bne_iff_ne.mpr c4
        obtain rfl := Option.some.inj H
        go_enter Tryd.func11, Tryd.ntmps11
        go_wp2_with (first | ((with_reducible refine gate_callee (f := 9) rfl ?_); refine goesL_ (some 5) rfl rfl Tryd.func9 (by kernel_rfl) rfl #[.string (⟨#[65, 49, 43, 34, 120, 34]⟩ : ByteArray)] rfl (by (try simp only [List.map_toArray, List.map_cons, List.map_nil]); first | done | rfl | (simp only [List.length_drop, List.length_take]; rfl)) ?_; (with_reducible refine (lex_Scan.calls k (⟨#[65, 49, 43, 34, 120, 34]⟩ : ByteArray) t196 t197 t198 _ (LaidG.below HGL.out (by repeat (first | (with_reducible first | exact HB.out | apply below_alloc | apply pw_below_drewN | apply below_drew1) | exact HB.out))) A1.out).mono ?_); rintro e w21 ⟨v199, rfl, ho0, hb⟩; refine ⟨_, rfl, ?_⟩; have n0_ := Aside0.mk (Kd.R_lower ho0 (below_size (by repeat (first | (with_reducible first | exact HB.out | apply below_alloc | apply pw_below_drewN | apply below_drew1) | exact HB.out)))); have n1_ := Aside0.mk (below_step (by repeat (first | (with_reducible first | exact HB.out | apply below_alloc | apply pw_below_drewN | apply below_drew1) | exact HB.out)) hb); clear HB; have HO200 := n0_; have HB := n1_; clear n0_ n1_; (try clear hb); (try clear hb2); (try clear hk); (try clear hi); (try clear ho0); obtain ⟨Ao22, co22, eo22⟩ := Kd.R_slice HO200.out; subst eo22))
        go_ret
        exact ⟨by first | rfl | (simp [errW_none, errW_some] <;> rfl) | (simp [*, errW_none, errW_some] <;> rfl), by repeat (first | (with_reducible first | exact HB.out | apply below_alloc | apply pw_below_drewN | apply below_drew1) | exact HB.out)⟩
    · rw [if_neg c3] at H
      have c3b0 : (t198 == 0) = false := beq_eq_false_iff_ne.mpr c3
      have c3b1 : (t198 != 0) = true := bne_iff_ne.mpr c3
      obtain rfl := Option.some.inj H
      go_enter Tryd.func11, Tryd.ntmps11
      go_wp2_with (first | ((with_reducible refine gate_callee (f := 9) rfl ?_); refine goesL_ (some 5) rfl rfl Tryd.func9 (by kernel_rfl) rfl #[.string (⟨#[65, 49, 43, 34, 120, 34]⟩ : ByteArray)] rfl (by (try simp only [List.map_toArray, List.map_cons, List.map_nil]); first | done | rfl | (simp only [List.length_drop, List.length_take]; rfl)) ?_; (with_reducible refine (lex_Scan.calls k (⟨#[65, 49, 43, 34, 120, 34]⟩ : ByteArray) t196 t197 t198 _ (LaidG.below HGL.out (by repeat (first | (with_reducible first | exact HB.out | apply below_alloc | apply pw_below_drewN | apply below_drew1) | exact HB.out))) A1.out).mono ?_); rintro e w23 ⟨v199, rfl, ho0, hb⟩; refine ⟨_, rfl, ?_⟩; have n0_ := Aside0.mk (Kd.R_lower ho0 (below_size (by repeat (first | (with_reducible first | exact HB.out | apply below_alloc | apply pw_below_drewN | apply below_drew1) | exact HB.out)))); have n1_ := Aside0.mk (below_step (by repeat (first | (with_reducible first | exact HB.out | apply below_alloc | apply pw_below_drewN | apply below_drew1) | exact HB.out)) hb); clear HB; have HO200 := n0_; have HB := n1_; clear n0_ n1_; (try clear hb); (try clear hb2); (try clear hk); (try clear hi); (try clear ho0)))
      go_ret
      exact ⟨by first | rfl | (simp [errW_none, errW_some] <;> rfl) | (simp [*, errW_none, errW_some] <;> rfl), by repeat (first | (with_reducible first | exact HB.out | apply below_alloc | apply pw_below_drewN | apply below_drew1) | exact HB.out)⟩
  · rw [if_neg c2] at H
    have c2b0 : (t197 == 0) = false := beq_eq_false_iff_ne.mpr c2
    have c2b1 : (t197 != 0) = true := bne_iff_ne.mpr c2
    obtain rfl := Option.some.inj H
    go_enter Tryd.func11, Tryd.ntmps11
    go_wp2_with (first | ((with_reducible refine gate_callee (f := 9) rfl ?_); refine goesL_ (some 5) rfl rfl Tryd.func9 (by kernel_rfl) rfl #[.string (⟨#[65, 49, 43, 34, 120, 34]⟩ : ByteArray)] rfl (by (try simp only [List.map_toArray, List.map_cons, List.map_nil]); first | done | rfl | (simp only [List.length_drop, List.length_take]; rfl)) ?_; (with_reducible refine (lex_Scan.calls k (⟨#[65, 49, 43, 34, 120, 34]⟩ : ByteArray) t196 t197 t198 _ (LaidG.below HGL.out (by repeat (first | (with_reducible first | exact HB.out | apply below_alloc | apply pw_below_drewN | apply below_drew1) | exact HB.out))) A1.out).mono ?_); rintro e w24 ⟨v199, rfl, ho0, hb⟩; refine ⟨_, rfl, ?_⟩; have n0_ := Aside0.mk (Kd.R_lower ho0 (below_size (by repeat (first | (with_reducible first | exact HB.out | apply below_alloc | apply pw_below_drewN | apply below_drew1) | exact HB.out)))); have n1_ := Aside0.mk (below_step (by repeat (first | (with_reducible first | exact HB.out | apply below_alloc | apply pw_below_drewN | apply below_drew1) | exact HB.out)) hb); clear HB; have HO200 := n0_; have HB := n1_; clear n0_ n1_; (try clear hb); (try clear hb2); (try clear hk); (try clear hi); (try clear ho0)))
    go_ret
    exact ⟨by first | rfl | (simp [errW_none, errW_some] <;> rfl) | (simp [*, errW_none, errW_some] <;> rfl), by repeat (first | (with_reducible first | exact HB.out | apply below_alloc | apply pw_below_drewN | apply below_drew1) | exact HB.out)⟩

end Go.Proofs.YtceldhkfidmfkaaDoor.L
