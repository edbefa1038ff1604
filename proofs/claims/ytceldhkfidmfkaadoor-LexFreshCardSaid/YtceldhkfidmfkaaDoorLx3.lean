-- by wprint.py, out of the translation
import Derived.Test.YtceldhkfidmfkaaDoorLx0
namespace Go.Proofs.YtceldhkfidmfkaaDoor.L
open Go.RowKit Go.Proofs.YtceldhkfidmfkaaDoorW.PrintWords Go.Proofs.YtceldhkfidmfkaaDoorW.PrintLast Go.Proofs.YtceldhkfidmfkaaDoorW.PrintMore
attribute [local go_sem] max2_int min2_int max_two min_two max_three min_three max_four min_four   -- for this text's walks alone
set_option linter.unusedVariables false
set_option linter.unusedSimpArgs false

/-! ### whittleref4_letter: function 36 -/
def whittleref4_letter.f (a0 : Int) : Option (Bool) := if a0 ≥ 65 then (if a0 ≤ 90 then (some true) else (if a0 ≥ 97 then (some (decide (a0 ≤ 122))) else (some false))) else (if a0 ≥ 97 then (some (decide (a0 ≤ 122))) else (some false))
set_option maxHeartbeats 8000000 in
set_option maxRecDepth 100000 in
theorem whittleref4_letter.calls (a0 : Int) (r : Bool) (w : World) (h : whittleref4_letter.f a0 = some r) :
    Calls Tryd.prog 36 #[.int .u8 a0] w fun e w' => e = .returned (.bool r) ∧ Drawn0 w w' := by
  have H : (if a0 ≥ 65 then (if a0 ≤ 90 then (some true) else (if a0 ≥ 97 then (some (decide (a0 ≤ 122))) else (some false))) else (if a0 ≥ 97 then (some (decide (a0 ≤ 122))) else (some false))) = some r := h
  clear h
  by_cases c2 : a0 ≥ 65
  · rw [if_pos c2] at H
    have c2b0 : decide (65 ≤ a0) = true := decide_eq_true c2
    clear c2
    by_cases c3 : a0 ≤ 90
    · rw [if_pos c3] at H
      have c3b0 : decide (a0 ≤ 90) = true := decide_eq_true c3
      clear c3
      obtain rfl := Option.some.inj H
      go_enter Tryd.func36, Tryd.ntmps36
      go_wp2
      go_ret
      exact ⟨by first | rfl | (simp; done) | (simp [*]; done), by repeat (first | exact Drawn0.refl _ | apply Drawn0.step)⟩
    · rw [if_neg c3] at H
      have c3b0 : decide (a0 ≤ 90) = false := decide_eq_false c3
      clear c3
      by_cases c4 : a0 ≥ 97
      · rw [if_pos c4] at H
        have c4b0 : decide (97 ≤ a0) = true := decide_eq_true c4
        clear c4
        obtain rfl := Option.some.inj H
        go_enter Tryd.func36, Tryd.ntmps36
        go_wp2
        go_ret
        exact ⟨by first | rfl | (simp; done) | (simp [*]; done), by repeat (first | exact Drawn0.refl _ | apply Drawn0.step)⟩
      · rw [if_neg c4] at H
        have c4b0 : decide (97 ≤ a0) = false := decide_eq_false c4
        clear c4
        obtain rfl := Option.some.inj H
        go_enter Tryd.func36, Tryd.ntmps36
        go_wp2
        go_ret
        exact ⟨by first | rfl | (simp; done) | (simp [*]; done), by repeat (first | exact Drawn0.refl _ | apply Drawn0.step)⟩
  · rw [if_neg c2] at H
    have c2b0 : decide (65 ≤ a0) = false := decide_eq_false c2
    clear c2
    by_cases c5 : a0 ≥ 97
    · rw [if_pos c5] at H
      have c5b0 : decide (97 ≤ a0) = true := decide_eq_true c5
      clear c5
      obtain rfl := Option.some.inj H
      go_enter Tryd.func36, Tryd.ntmps36
      go_wp2
      go_ret
      exact ⟨by first | rfl | (simp; done) | (simp [*]; done), by repeat (first | exact Drawn0.refl _ | apply Drawn0.step)⟩
    · rw [if_neg c5] at H
      have c5b0 : decide (97 ≤ a0) = false := decide_eq_false c5
      clear c5
      obtain rfl := Option.some.inj H
      go_enter Tryd.func36, Tryd.ntmps36
      go_wp2
      go_ret
      exact ⟨by first | rfl | (simp; done) | (simp [*]; done), by repeat (first | exact Drawn0.refl _ | apply Drawn0.step)⟩

/-! ### whittleref4_faults: function 37 -/
def whittleref4_faults.f  : Option (List ByteArray) := some (([(⟨#[35, 68, 73, 86, 47, 48, 33]⟩ : ByteArray), (⟨#[35, 86, 65, 76, 85, 69, 33]⟩ : ByteArray), (⟨#[35, 82, 69, 70, 33]⟩ : ByteArray), (⟨#[35, 78, 85, 77, 33]⟩ : ByteArray), (⟨#[35, 78, 47, 65]⟩ : ByteArray), (⟨#[35, 67, 73, 82, 67, 76, 69, 33]⟩ : ByteArray), (⟨#[35, 76, 79, 78, 71, 33]⟩ : ByteArray), (⟨#[35, 65, 82, 71, 33]⟩ : ByteArray)] : List ByteArray))
set_option maxHeartbeats 8000000 in
set_option maxRecDepth 100000 in
theorem whittleref4_faults.calls  (r : List ByteArray) (w : World) (h : whittleref4_faults.f  = some r) :
    Calls Tryd.prog 37 #[] w fun e w' => ∃ v0_ : Value, e = .returned (v0_) ∧ Kd.R Kd.string 9 w' w.heap.size (fun _ => True) v0_ r ∧ Below w.heap.size w w' := by
  have HB := Aside0.mk (Below.refl w.heap.size w)
  have H : (some (([(⟨#[35, 68, 73, 86, 47, 48, 33]⟩ : ByteArray), (⟨#[35, 86, 65, 76, 85, 69, 33]⟩ : ByteArray), (⟨#[35, 82, 69, 70, 33]⟩ : ByteArray), (⟨#[35, 78, 85, 77, 33]⟩ : ByteArray), (⟨#[35, 78, 47, 65]⟩ : ByteArray), (⟨#[35, 67, 73, 82, 67, 76, 69, 33]⟩ : ByteArray), (⟨#[35, 76, 79, 78, 71, 33]⟩ : ByteArray), (⟨#[35, 65, 82, 71, 33]⟩ : ByteArray)] : List ByteArray))) = some r := h
  clear h
  obtain ⟨y126, hy126⟩ : ∃ y_ : List ByteArray, y_ = (([(⟨#[35, 68, 73, 86, 47, 48, 33]⟩ : ByteArray), (⟨#[35, 86, 65, 76, 85, 69, 33]⟩ : ByteArray), (⟨#[35, 82, 69, 70, 33]⟩ : ByteArray), (⟨#[35, 78, 85, 77, 33]⟩ : ByteArray), (⟨#[35, 78, 47, 65]⟩ : ByteArray), (⟨#[35, 67, 73, 82, 67, 76, 69, 33]⟩ : ByteArray), (⟨#[35, 76, 79, 78, 71, 33]⟩ : ByteArray), (⟨#[35, 65, 82, 71, 33]⟩ : ByteArray)] : List ByteArray)) := ⟨_, rfl⟩
  replace H : (some y126) = some r := by first | (rw [hy126]; with_reducible exact H) | (have H2_ := (Option.bind_some _ _).symm.trans H; rw [hy126]; with_reducible exact H2_) | (have H2_ := (Option.bind_some _ _).symm.trans H; with_reducible exact H2_) | with_reducible exact H | (rw [hy126]; exact H) | exact H
  have Ny126 := Aside0.mk hy126
  clear hy126
  obtain rfl := Option.some.inj H
  go_enter Tryd.func37, Tryd.ntmps37
  go_wp2_with (first | ((with_reducible refine gate_dst (N := 1) rfl ?_); refine Kd.R_lit Kd.string _ 9 ?hg (N := 1) ?hd (xs := ([(⟨#[35, 68, 73, 86, 47, 48, 33]⟩ : ByteArray), (⟨#[35, 86, 65, 76, 85, 69, 33]⟩ : ByteArray), (⟨#[35, 82, 69, 70, 33]⟩ : ByteArray), (⟨#[35, 78, 85, 77, 33]⟩ : ByteArray), (⟨#[35, 78, 47, 65]⟩ : ByteArray), (⟨#[35, 67, 73, 82, 67, 76, 69, 33]⟩ : ByteArray), (⟨#[35, 76, 79, 78, 71, 33]⟩ : ByteArray), (⟨#[35, 65, 82, 71, 33]⟩ : ByteArray)] : List ByteArray)) (inner := [.string (⟨#[35, 68, 73, 86, 47, 48, 33]⟩ : ByteArray), .string (⟨#[35, 86, 65, 76, 85, 69, 33]⟩ : ByteArray), .string (⟨#[35, 82, 69, 70, 33]⟩ : ByteArray), .string (⟨#[35, 78, 85, 77, 33]⟩ : ByteArray), .string (⟨#[35, 78, 47, 65]⟩ : ByteArray), .string (⟨#[35, 67, 73, 82, 67, 76, 69, 33]⟩ : ByteArray), .string (⟨#[35, 76, 79, 78, 71, 33]⟩ : ByteArray), .string (⟨#[35, 65, 82, 71, 33]⟩ : ByteArray)]) (ok := fun _ => True) (okp := fun _ => True) ?hr ?hp (fun _ hk => hk) trivial (Below.refl _ _) (Nat.le_refl _) (by simp) ?_; (case hd => rfl); (case hg => rfl); (case hr => first | (go_simp; done) | (go_simp; rfl)); (case hp => exact (Reps.one (show Kd.M Kd.string _ _ _ (⟨#[35, 68, 73, 86, 47, 48, 33]⟩ : ByteArray) [.string (⟨#[35, 68, 73, 86, 47, 48, 33]⟩ : ByteArray)] from rfl) (Reps.one (show Kd.M Kd.string _ _ _ (⟨#[35, 86, 65, 76, 85, 69, 33]⟩ : ByteArray) [.string (⟨#[35, 86, 65, 76, 85, 69, 33]⟩ : ByteArray)] from rfl) (Reps.one (show Kd.M Kd.string _ _ _ (⟨#[35, 82, 69, 70, 33]⟩ : ByteArray) [.string (⟨#[35, 82, 69, 70, 33]⟩ : ByteArray)] from rfl) (Reps.one (show Kd.M Kd.string _ _ _ (⟨#[35, 78, 85, 77, 33]⟩ : ByteArray) [.string (⟨#[35, 78, 85, 77, 33]⟩ : ByteArray)] from rfl) (Reps.one (show Kd.M Kd.string _ _ _ (⟨#[35, 78, 47, 65]⟩ : ByteArray) [.string (⟨#[35, 78, 47, 65]⟩ : ByteArray)] from rfl) (Reps.one (show Kd.M Kd.string _ _ _ (⟨#[35, 67, 73, 82, 67, 76, 69, 33]⟩ : ByteArray) [.string (⟨#[35, 67, 73, 82, 67, 76, 69, 33]⟩ : ByteArray)] from rfl) (Reps.one (show Kd.M Kd.string _ _ _ (⟨#[35, 76, 79, 78, 71, 33]⟩ : ByteArray) [.string (⟨#[35, 76, 79, 78, 71, 33]⟩ : ByteArray)] from rfl) (Reps.one (show Kd.M Kd.string _ _ _ (⟨#[35, 65, 82, 71, 33]⟩ : ByteArray) [.string (⟨#[35, 65, 82, 71, 33]⟩ : ByteArray)] from rfl) (Reps.none _ _)))))))))); intro v127 w1 ho2 hb hg_ hnew_; clear hg_ hnew_; (first | rw [← Ny126.out] at ho2 | (simp only [Int.reduceToNat] at ho2; rw [← Ny126.out] at ho2)); have n0_ := Aside0.mk (Kd.R_lower ho2 (below_size (by repeat (first | (with_reducible first | exact HB.out | apply below_alloc | apply pw_below_drewN | apply below_drew1) | exact HB.out)))); have n1_ := Aside0.mk (below_step (by repeat (first | (with_reducible first | exact HB.out | apply below_alloc | apply pw_below_drewN | apply below_drew1) | exact HB.out)) hb); clear HB; have HO128 := n0_; have HB := n1_; clear n0_ n1_; clear hb ho2))
  go_ret
  exact ⟨_, by first | rfl | (simp [errW_none, errW_some] <;> rfl) | (simp [*, errW_none, errW_some] <;> rfl), by (with_reducible repeat (first | apply Kd.R_alloc | apply Kd.R_drewN | apply Kd.R_drew)); exact HO128.out, by repeat (first | (with_reducible first | exact HB.out | apply below_alloc | apply pw_below_drewN | apply below_drew1) | exact HB.out)⟩

/-! ### whittleref4_begins: function 38 -/
def whittleref4_begins.f (a0 : ByteArray) (a1 : Int) (a2 : ByteArray) : Option (Bool) := if (wrap64 ((a0.size : Int) - a1)) ≥ (a2.size : Int) then (if 0 ≤ a1 then (if a1 ≤ (wrap64 (a1 + (a2.size : Int))) then (if (wrap64 (a1 + (a2.size : Int))) ≤ (a0.size : Int) then (some ((a0.extract (a1 : Int).toNat ((wrap64 (a1 + (a2.size : Int))) : Int).toNat).toList == a2.toList)) else (none)) else (none)) else (none)) else (some false)
set_option maxHeartbeats 8000000 in
set_option maxRecDepth 100000 in
theorem whittleref4_begins.calls (a0 : ByteArray) (a1 : Int) (a2 : ByteArray) (r : Bool) (w : World) (h : whittleref4_begins.f a0 a1 a2 = some r) :
    Calls Tryd.prog 38 #[.string a0, .int .i64 a1, .string a2] w fun e w' => e = .returned (.bool r) ∧ Drawn0 w w' := by
  have H : (if (wrap64 ((a0.size : Int) - a1)) ≥ (a2.size : Int) then (if 0 ≤ a1 then (if a1 ≤ (wrap64 (a1 + (a2.size : Int))) then (if (wrap64 (a1 + (a2.size : Int))) ≤ (a0.size : Int) then (some ((a0.extract (a1 : Int).toNat ((wrap64 (a1 + (a2.size : Int))) : Int).toNat).toList == a2.toList)) else (none)) else (none)) else (none)) else (some false)) = some r := h
  clear h
  by_cases c4 : (wrap64 ((a0.size : Int) - a1)) ≥ (a2.size : Int)
  · rw [if_pos c4] at H
    have c4b0 : decide ((a2.size : Int) ≤ (wrap64 ((a0.size : Int) - a1))) = true := decide_eq_true c4
    clear c4
    by_cases c5 : 0 ≤ a1
    · rw [if_pos c5] at H
      have c5b0 := eq_true c5
      have c5b1 : decide (0 ≤ a1) = true := decide_eq_true c5
      clear c5
      by_cases c6 : a1 ≤ (wrap64 (a1 + (a2.size : Int)))
      · rw [if_pos c6] at H
        have c6b0 := eq_true c6
        have c6b1 : decide (a1 ≤ (wrap64 (a1 + (a2.size : Int)))) = true := decide_eq_true c6
        by_cases c7 : (wrap64 (a1 + (a2.size : Int))) ≤ (a0.size : Int)
        · rw [if_pos c7] at H
          have c7b0 := eq_true c7
          have c7b1 : decide ((wrap64 (a1 + (a2.size : Int))) ≤ (a0.size : Int)) = true := decide_eq_true c7
          obtain rfl := Option.some.inj H
          go_enter Tryd.func38, Tryd.ntmps38
          go_wp2
          go_ret
          exact ⟨by first | rfl | (simp; done) | (simp [*]; done), by repeat (first | exact Drawn0.refl _ | apply Drawn0.step)⟩
        · rw [if_neg c7] at H
          exact absurd H (by simp)
      · rw [if_neg c6] at H
        exact absurd H (by simp)
    · rw [if_neg c5] at H
      exact absurd H (by simp)
  · rw [if_neg c4] at H
    have c4b0 : decide ((a2.size : Int) ≤ (wrap64 ((a0.size : Int) - a1))) = false := decide_eq_false c4
    clear c4
    obtain rfl := Option.some.inj H
    go_enter Tryd.func38, Tryd.ntmps38
    go_wp2
    go_ret
    exact ⟨by first | rfl | (simp; done) | (simp [*]; done), by repeat (first | exact Drawn0.refl _ | apply Drawn0.step)⟩

end Go.Proofs.YtceldhkfidmfkaaDoor.L
