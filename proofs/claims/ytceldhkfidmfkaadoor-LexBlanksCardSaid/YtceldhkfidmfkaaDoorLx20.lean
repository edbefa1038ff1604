-- by wprint.py, out of the translation
import Derived.Test.YtceldhkfidmfkaaDoorLx0
import Derived.Test.YtceldhkfidmfkaaDoorLx6
import Derived.Test.YtceldhkfidmfkaaDoorLx13
import Derived.Test.YtceldhkfidmfkaaDoorLx15
import Derived.Test.YtceldhkfidmfkaaDoorLaid
namespace Go.Proofs.YtceldhkfidmfkaaDoor.L
open Go.RowKit Go.Proofs.YtceldhkfidmfkaaDoorW.PrintWords Go.Proofs.YtceldhkfidmfkaaDoorW.PrintLast Go.Proofs.YtceldhkfidmfkaaDoorW.PrintMore
attribute [local go_sem] max2_int min2_int max_two min_two max_three min_three max_four min_four   -- for this text's walks alone
set_option linter.unusedVariables false
set_option linter.unusedSimpArgs false

/-! ### whittlelaw4_LexBlanks: function 7 -/
mutual
def whittlelaw4_LexBlanks.j0 : Nat → ByteArray → Int → Int → List (S31) → Bool → Option (Bool)
  | 0, _, _, _, _, _ => none
  | k + 1, x0, x1, x2, x7, x33 => if x33 = true then (some true) else (if (wrap64 ((x7.length : Int) + 1)) = 0 then (none) else (if (Int.tmod x1 (wrap64 ((x7.length : Int) + 1))) < 0 then (whittlelaw4_LexBlanks.j1 k x0 x2 x7 (wrap64 ((wrap64 ((Int.tmod x1 (wrap64 ((x7.length : Int) + 1))) + (x7.length : Int))) + 1))) else (whittlelaw4_LexBlanks.j1 k x0 x2 x7 (Int.tmod x1 (wrap64 ((x7.length : Int) + 1))))))
def whittlelaw4_LexBlanks.j1 : Nat → ByteArray → Int → List (S31) → Int → Option (Bool)
  | 0, _, _, _, _ => none
  | k + 1, x0, x2, x7, x10 => if x10 < (x7.length : Int) then (if 0 ≤ x10 then (whittlelaw4_LexBlanks.j2 k x0 x2 x7 x10 ((rd_T31 x7 x10).f2)) else (none)) else (whittlelaw4_LexBlanks.j2 k x0 x2 x7 x10 (x0.size : Int))
def whittlelaw4_LexBlanks.j2 : Nat → ByteArray → Int → List (S31) → Int → Int → Option (Bool)
  | 0, _, _, _, _, _ => none
  | k + 1, x0, x2, x7, x10, x11 => if 0 ≤ x11 then (if x11 ≤ (x0.size : Int) then (whittlelaw4_LexBlanks.l0 k x0 x2 x7 x10 x11 (x0.extract 0 (x11 : Int).toNat) 0) else (none)) else (none)
def whittlelaw4_LexBlanks.l0 : Nat → ByteArray → Int → List (S31) → Int → Int → ByteArray → Int → Option (Bool)
  | 0, _, _, _, _, _, _, _ => none
  | k + 1, x0, x2, x7, x10, x11, x12, x13 => if x13 ≤ (Go.bits .and .i64 x2 7) then (if x12.size + 1 ≤ 9223372036854775807 then (whittlelaw4_LexBlanks.l0 k x0 x2 x7 x10 x11 (x12 ++ (⟨#[32]⟩ : ByteArray)) (wrap64 (x13 + 1))) else (none)) else (if 0 ≤ x11 then (if x11 ≤ (x0.size : Int) then (if x12.size + (x0.extract (x11 : Int).toNat x0.size).size ≤ 9223372036854775807 then ((lex_Scan.f k (x12 ++ (x0.extract (x11 : Int).toNat x0.size))).bind fun bt290 => (if ((x12 ++ (x0.extract (x11 : Int).toNat x0.size)).size : Int) > 1024 then (some (bt290.2.1 == 2)) else (if bt290.2.1 = 0 then ((whittlelaw4_alike.f k x7 bt290.1).bind fun t295 => (whittlelaw4_LexBlanks.j4 k x2 x7 x10 bt290.1 (!t295))) else (whittlelaw4_LexBlanks.j4 k x2 x7 x10 bt290.1 true)))) else (none)) else (none)) else (none))
def whittlelaw4_LexBlanks.j4 : Nat → Int → List (S31) → Int → List (S31) → Bool → Option (Bool)
  | 0, _, _, _, _, _ => none
  | k + 1, x2, x7, x10, x14, x91 => if x91 = true then (some false) else (whittlelaw4_LexBlanks.l1 k x2 x7 x10 x14 0)
def whittlelaw4_LexBlanks.l1 : Nat → Int → List (S31) → Int → List (S31) → Int → Option (Bool)
  | 0, _, _, _, _, _ => none
  | k + 1, x2, x7, x10, x14, x17 => if x17 < (x7.length : Int) then (if x17 ≥ x10 then (if 0 ≤ x17 then (if x17 < (x14.length : Int) then (if ((rd_T31 x14 x17).f2) = (wrap64 (((rd_T31 x7 x17).f2) + (wrap64 ((Go.bits .and .i64 x2 7) + 1)))) then (whittlelaw4_LexBlanks.l1 k x2 x7 x10 x14 (wrap64 (x17 + 1))) else (some false)) else (none)) else (none)) else (if 0 ≤ x17 then (if x17 < (x14.length : Int) then (if ((rd_T31 x14 x17).f2) = (wrap64 (((rd_T31 x7 x17).f2) + 0)) then (whittlelaw4_LexBlanks.l1 k x2 x7 x10 x14 (wrap64 (x17 + 1))) else (some false)) else (none)) else (none))) else (some true)
end
def whittlelaw4_LexBlanks.f (k : Nat) (a0 : ByteArray) (a1 : Int) (a2 : Int) : Option (Bool) := (whittlelaw4_able.f k).bind fun t283 => (if t283 = true then ((lex_Scan.f k a0).bind fun bt284 => (if bt284.2.1 = 0 then (whittlelaw4_LexBlanks.j0 k a0 a1 a2 bt284.1 ((bt284.1.length : Int) == 0)) else (whittlelaw4_LexBlanks.j0 k a0 a1 a2 bt284.1 true))) else (some false))
theorem whittlelaw4_LexBlanks.mono_l : ∀ k, (∀ y0 y1 y2 y3 y4, LeO (whittlelaw4_LexBlanks.j0 k y0 y1 y2 y3 y4) (whittlelaw4_LexBlanks.j0 (k + 1) y0 y1 y2 y3 y4)) ∧ (∀ y0 y1 y2 y3, LeO (whittlelaw4_LexBlanks.j1 k y0 y1 y2 y3) (whittlelaw4_LexBlanks.j1 (k + 1) y0 y1 y2 y3)) ∧ (∀ y0 y1 y2 y3 y4, LeO (whittlelaw4_LexBlanks.j2 k y0 y1 y2 y3 y4) (whittlelaw4_LexBlanks.j2 (k + 1) y0 y1 y2 y3 y4)) ∧ (∀ y0 y1 y2 y3 y4 y5 y6, LeO (whittlelaw4_LexBlanks.l0 k y0 y1 y2 y3 y4 y5 y6) (whittlelaw4_LexBlanks.l0 (k + 1) y0 y1 y2 y3 y4 y5 y6)) ∧ (∀ y0 y1 y2 y3 y4, LeO (whittlelaw4_LexBlanks.j4 k y0 y1 y2 y3 y4) (whittlelaw4_LexBlanks.j4 (k + 1) y0 y1 y2 y3 y4)) ∧ (∀ y0 y1 y2 y3 y4, LeO (whittlelaw4_LexBlanks.l1 k y0 y1 y2 y3 y4) (whittlelaw4_LexBlanks.l1 (k + 1) y0 y1 y2 y3 y4))
  | 0 => ⟨fun _ _ _ _ _ r h => by simp [whittlelaw4_LexBlanks.j0] at h, fun _ _ _ _ r h => by simp [whittlelaw4_LexBlanks.j1] at h, fun _ _ _ _ _ r h => by simp [whittlelaw4_LexBlanks.j2] at h, fun _ _ _ _ _ _ _ r h => by simp [whittlelaw4_LexBlanks.l0] at h, fun _ _ _ _ _ r h => by simp [whittlelaw4_LexBlanks.j4] at h, fun _ _ _ _ _ r h => by simp [whittlelaw4_LexBlanks.l1] at h⟩
  | k + 1 => by
    obtain ⟨ih0, ih1, ih2, ih3, ih4, ih5⟩ := whittlelaw4_LexBlanks.mono_l k
    refine ⟨?_, ?_, ?_, ?_, ?_, ?_⟩
    · intro y0 y1 y2 y3 y4
      unfold whittlelaw4_LexBlanks.j0
      repeat' first
      | (with_reducible exact ih0 _ _ _ _ _)
      | (with_reducible exact ih1 _ _ _ _)
      | (with_reducible exact ih2 _ _ _ _ _)
      | (with_reducible exact ih3 _ _ _ _ _ _ _)
      | (with_reducible exact ih4 _ _ _ _ _)
      | (with_reducible exact ih5 _ _ _ _ _)
      | (with_reducible exact lex_Scan.mono _ _)
      | (with_reducible exact whittlelaw4_able.mono _)
      | (with_reducible exact whittlelaw4_alike.mono _ _ _)
      | (with_reducible exact LeO.refl _)
      | (with_reducible exact LeO.none _)
      | (with_reducible refine LeO.ite ?_ ?_)
      | (with_reducible refine LeO.bind ?_ (fun _ => ?_))
      | exact ih0 _ _ _ _ _
      | exact ih1 _ _ _ _
      | exact ih2 _ _ _ _ _
      | exact ih3 _ _ _ _ _ _ _
      | exact ih4 _ _ _ _ _
      | exact ih5 _ _ _ _ _
      | exact lex_Scan.mono _ _
      | exact whittlelaw4_able.mono _
      | exact whittlelaw4_alike.mono _ _ _
      | exact LeO.none _
      | refine LeO.ite ?_ ?_
      | refine LeO.bind ?_ (fun _ => ?_)
    · intro y0 y1 y2 y3
      unfold whittlelaw4_LexBlanks.j1
      repeat' first
      | (with_reducible exact ih0 _ _ _ _ _)
      | (with_reducible exact ih1 _ _ _ _)
      | (with_reducible exact ih2 _ _ _ _ _)
      | (with_reducible exact ih3 _ _ _ _ _ _ _)
      | (with_reducible exact ih4 _ _ _ _ _)
      | (with_reducible exact ih5 _ _ _ _ _)
      | (with_reducible exact lex_Scan.mono _ _)
      | (with_reducible exact whittlelaw4_able.mono _)
      | (with_reducible exact whittlelaw4_alike.mono _ _ _)
      | (with_reducible exact LeO.refl _)
      | (with_reducible exact LeO.none _)
      | (with_reducible refine LeO.ite ?_ ?_)
      | (with_reducible refine LeO.bind ?_ (fun _ => ?_))
      | exact ih0 _ _ _ _ _
      | exact ih1 _ _ _ _
      | exact ih2 _ _ _ _ _
      | exact ih3 _ _ _ _ _ _ _
      | exact ih4 _ _ _ _ _
      | exact ih5 _ _ _ _ _
      | exact lex_Scan.mono _ _
      | exact whittlelaw4_able.mono _
      | exact whittlelaw4_alike.mono _ _ _
      | exact LeO.none _
      | refine LeO.ite ?_ ?_
      | refine LeO.bind ?_ (fun _ => ?_)
    · intro y0 y1 y2 y3 y4
      unfold whittlelaw4_LexBlanks.j2
      repeat' first
      | (with_reducible exact ih0 _ _ _ _ _)
      | (with_reducible exact ih1 _ _ _ _)
      | (with_reducible exact ih2 _ _ _ _ _)
      | (with_reducible exact ih3 _ _ _ _ _ _ _)
      | (with_reducible exact ih4 _ _ _ _ _)
      | (with_reducible exact ih5 _ _ _ _ _)
      | (with_reducible exact lex_Scan.mono _ _)
      | (with_reducible exact whittlelaw4_able.mono _)
      | (with_reducible exact whittlelaw4_alike.mono _ _ _)
      | (with_reducible exact LeO.refl _)
      | (with_reducible exact LeO.none _)
      | (with_reducible refine LeO.ite ?_ ?_)
      | (with_reducible refine LeO.bind ?_ (fun _ => ?_))
      | exact ih0 _ _ _ _ _
      | exact ih1 _ _ _ _
      | exact ih2 _ _ _ _ _
      | exact ih3 _ _ _ _ _ _ _
      | exact ih4 _ _ _ _ _
      | exact ih5 _ _ _ _ _
      | exact lex_Scan.mono _ _
      | exact whittlelaw4_able.mono _
      | exact whittlelaw4_alike.mono _ _ _
      | exact LeO.none _
      | refine LeO.ite ?_ ?_
      | refine LeO.bind ?_ (fun _ => ?_)
    · intro y0 y1 y2 y3 y4 y5 y6
      unfold whittlelaw4_LexBlanks.l0
      repeat' first
      | (with_reducible exact ih0 _ _ _ _ _)
      | (with_reducible exact ih1 _ _ _ _)
      | (with_reducible exact ih2 _ _ _ _ _)
      | (with_reducible exact ih3 _ _ _ _ _ _ _)
      | (with_reducible exact ih4 _ _ _ _ _)
      | (with_reducible exact ih5 _ _ _ _ _)
      | (with_reducible exact lex_Scan.mono _ _)
      | (with_reducible exact whittlelaw4_able.mono _)
      | (with_reducible exact whittlelaw4_alike.mono _ _ _)
      | (with_reducible exact LeO.refl _)
      | (with_reducible exact LeO.none _)
      | (with_reducible refine LeO.ite ?_ ?_)
      | (with_reducible refine LeO.bind ?_ (fun _ => ?_))
      | exact ih0 _ _ _ _ _
      | exact ih1 _ _ _ _
      | exact ih2 _ _ _ _ _
      | exact ih3 _ _ _ _ _ _ _
      | exact ih4 _ _ _ _ _
      | exact ih5 _ _ _ _ _
      | exact lex_Scan.mono _ _
      | exact whittlelaw4_able.mono _
      | exact whittlelaw4_alike.mono _ _ _
      | exact LeO.none _
      | refine LeO.ite ?_ ?_
      | refine LeO.bind ?_ (fun _ => ?_)
    · intro y0 y1 y2 y3 y4
      unfold whittlelaw4_LexBlanks.j4
      repeat' first
      | (with_reducible exact ih0 _ _ _ _ _)
      | (with_reducible exact ih1 _ _ _ _)
      | (with_reducible exact ih2 _ _ _ _ _)
      | (with_reducible exact ih3 _ _ _ _ _ _ _)
      | (with_reducible exact ih4 _ _ _ _ _)
      | (with_reducible exact ih5 _ _ _ _ _)
      | (with_reducible exact lex_Scan.mono _ _)
      | (with_reducible exact whittlelaw4_able.mono _)
      | (with_reducible exact whittlelaw4_alike.mono _ _ _)
      | (with_reducible exact LeO.refl _)
      | (with_reducible exact LeO.none _)
      | (with_reducible refine LeO.ite ?_ ?_)
      | (with_reducible refine LeO.bind ?_ (fun _ => ?_))
      | exact ih0 _ _ _ _ _
      | exact ih1 _ _ _ _
      | exact ih2 _ _ _ _ _
      | exact ih3 _ _ _ _ _ _ _
      | exact ih4 _ _ _ _ _
      | exact ih5 _ _ _ _ _
      | exact lex_Scan.mono _ _
      | exact whittlelaw4_able.mono _
      | exact whittlelaw4_alike.mono _ _ _
      | exact LeO.none _
      | refine LeO.ite ?_ ?_
      | refine LeO.bind ?_ (fun _ => ?_)
    · intro y0 y1 y2 y3 y4
      unfold whittlelaw4_LexBlanks.l1
      repeat' first
      | (with_reducible exact ih0 _ _ _ _ _)
      | (with_reducible exact ih1 _ _ _ _)
      | (with_reducible exact ih2 _ _ _ _ _)
      | (with_reducible exact ih3 _ _ _ _ _ _ _)
      | (with_reducible exact ih4 _ _ _ _ _)
      | (with_reducible exact ih5 _ _ _ _ _)
      | (with_reducible exact lex_Scan.mono _ _)
      | (with_reducible exact whittlelaw4_able.mono _)
      | (with_reducible exact whittlelaw4_alike.mono _ _ _)
      | (with_reducible exact LeO.refl _)
      | (with_reducible exact LeO.none _)
      | (with_reducible refine LeO.ite ?_ ?_)
      | (with_reducible refine LeO.bind ?_ (fun _ => ?_))
      | exact ih0 _ _ _ _ _
      | exact ih1 _ _ _ _
      | exact ih2 _ _ _ _ _
      | exact ih3 _ _ _ _ _ _ _
      | exact ih4 _ _ _ _ _
      | exact ih5 _ _ _ _ _
      | exact lex_Scan.mono _ _
      | exact whittlelaw4_able.mono _
      | exact whittlelaw4_alike.mono _ _ _
      | exact LeO.none _
      | refine LeO.ite ?_ ?_
      | refine LeO.bind ?_ (fun _ => ?_)
theorem whittlelaw4_LexBlanks.mono : ∀ a0 a1 a2 k, LeO (whittlelaw4_LexBlanks.f k a0 a1 a2) (whittlelaw4_LexBlanks.f (k + 1) a0 a1 a2) := by
  intro a0 a1 a2 k
  obtain ⟨ih0, ih1, ih2, ih3, ih4, ih5⟩ := whittlelaw4_LexBlanks.mono_l k
  unfold whittlelaw4_LexBlanks.f
  repeat' first
      | (with_reducible exact ih0 _ _ _ _ _)
      | (with_reducible exact ih1 _ _ _ _)
      | (with_reducible exact ih2 _ _ _ _ _)
      | (with_reducible exact ih3 _ _ _ _ _ _ _)
      | (with_reducible exact ih4 _ _ _ _ _)
      | (with_reducible exact ih5 _ _ _ _ _)
      | (with_reducible exact lex_Scan.mono _ _)
      | (with_reducible exact whittlelaw4_able.mono _)
      | (with_reducible exact whittlelaw4_alike.mono _ _ _)
      | (with_reducible exact LeO.refl _)
      | (with_reducible exact LeO.none _)
      | (with_reducible refine LeO.ite ?_ ?_)
      | (with_reducible refine LeO.bind ?_ (fun _ => ?_))
      | exact ih0 _ _ _ _ _
      | exact ih1 _ _ _ _
      | exact ih2 _ _ _ _ _
      | exact ih3 _ _ _ _ _ _ _
      | exact ih4 _ _ _ _ _
      | exact ih5 _ _ _ _ _
      | exact lex_Scan.mono _ _
      | exact whittlelaw4_able.mono _
      | exact whittlelaw4_alike.mono _ _ _
      | exact LeO.none _
      | refine LeO.ite ?_ ?_
      | refine LeO.bind ?_ (fun _ => ?_)
set_option maxHeartbeats 8000000 in
set_option maxRecDepth 100000 in
theorem whittlelaw4_LexBlanks.calls (k : Nat) (a0 : ByteArray) (a1 : Int) (a2 : Int) (r : Bool) (w : World) (hG : LaidG w) (h : whittlelaw4_LexBlanks.f k a0 a1 a2 = some r) :
    Calls Tryd.prog 7 #[.string a0, .int .i64 a1, .int .i64 a2] w fun e w' => e = .returned (.bool r) ∧ Below w.heap.size w w' := by
  have HGL := Aside0.mk hG
  clear hG
  have HB := Aside0.mk (Below.refl w.heap.size w)
  have H : ((whittlelaw4_able.f k).bind fun t283 => (if t283 = true then ((lex_Scan.f k a0).bind fun bt284 => (if bt284.2.1 = 0 then (whittlelaw4_LexBlanks.j0 k a0 a1 a2 bt284.1 ((bt284.1.length : Int) == 0)) else (whittlelaw4_LexBlanks.j0 k a0 a1 a2 bt284.1 true))) else (some false))) = some r := h
  clear h
  replace H := Option.bind_eq_some_iff.mp H
  obtain ⟨t283, A40, H⟩ := H
  replace H : (if t283 = true then ((lex_Scan.f k a0).bind fun bt284 => (if bt284.2.1 = 0 then (whittlelaw4_LexBlanks.j0 k a0 a1 a2 bt284.1 ((bt284.1.length : Int) == 0)) else (whittlelaw4_LexBlanks.j0 k a0 a1 a2 bt284.1 true))) else (some false)) = some r := H
  have A4 := Aside0.mk A40
  clear A40
  by_cases c5 : t283 = true
  · subst c5
    have H1 : ((lex_Scan.f k a0).bind fun bt284 => (if bt284.2.1 = 0 then (whittlelaw4_LexBlanks.j0 k a0 a1 a2 bt284.1 ((bt284.1.length : Int) == 0)) else (whittlelaw4_LexBlanks.j0 k a0 a1 a2 bt284.1 true))) = some r := by rw [if_pos rfl] at H; exact H
    clear H
    have H := H1
    clear H1
    replace H := Option.bind_eq_some_iff.mp H
    obtain ⟨⟨t284, t285, t286⟩, A60, H⟩ := H
    replace H : (if t285 = 0 then (whittlelaw4_LexBlanks.j0 k a0 a1 a2 t284 ((t284.length : Int) == 0)) else (whittlelaw4_LexBlanks.j0 k a0 a1 a2 t284 true)) = some r := H
    have A6 := Aside0.mk A60
    clear A60
    have HC7 := Aside0.mk H
    clear H
    go_enter Tryd.func7, Tryd.ntmps7
    go_upto_region 4 with (first | (go_at_call 11; (with_reducible refine (whittlelaw4_able.calls k  true _ (LaidG.below HGL.out (by repeat (first | (with_reducible first | exact HB.out | apply below_alloc | apply pw_below_drewN | apply below_drew1) | exact HB.out))) A4.out).mono ?_); rintro e w8 ⟨rfl, hb⟩; have n0_ := Aside0.mk (below_step (by repeat (first | (with_reducible first | exact HB.out | apply below_alloc | apply pw_below_drewN | apply below_drew1) | exact HB.out)) hb); clear HB; have HB := n0_; clear n0_; (try clear hb); (try clear hb2); (try clear hk); (try clear hi)) | (go_at_call 9; (with_reducible refine (lex_Scan.calls k a0 t284 t285 t286 _ (LaidG.below HGL.out (by repeat (first | (with_reducible first | exact HB.out | apply below_alloc | apply pw_below_drewN | apply below_drew1) | exact HB.out))) A6.out).mono ?_); rintro e w9 ⟨v287, rfl, ho0, hb⟩; have n0_ := Aside0.mk (Kd.R_lower ho0 (below_size (by repeat (first | (with_reducible first | exact HB.out | apply below_alloc | apply pw_below_drewN | apply below_drew1) | exact HB.out)))); have n1_ := Aside0.mk (below_step (by repeat (first | (with_reducible first | exact HB.out | apply below_alloc | apply pw_below_drewN | apply below_drew1) | exact HB.out)) hb); clear HB; have HO288 := n0_; have HB := n1_; clear n0_ n1_; (try clear hb); (try clear hb2); (try clear hk); (try clear hi); (try clear ho0)))
    repeat (go_quiet (first | (go_at_call 11; (with_reducible refine (whittlelaw4_able.calls k  true _ (LaidG.below HGL.out (by repeat (first | (with_reducible first | exact HB.out | apply below_alloc | apply pw_below_drewN | apply below_drew1) | exact HB.out))) A4.out).mono ?_); rintro e w8 ⟨rfl, hb⟩; have n0_ := Aside0.mk (below_step (by repeat (first | (with_reducible first | exact HB.out | apply below_alloc | apply pw_below_drewN | apply below_drew1) | exact HB.out)) hb); clear HB; have HB := n0_; clear n0_; (try clear hb); (try clear hb2); (try clear hk); (try clear hi)) | (go_at_call 9; (with_reducible refine (lex_Scan.calls k a0 t284 t285 t286 _ (LaidG.below HGL.out (by repeat (first | (with_reducible first | exact HB.out | apply below_alloc | apply pw_below_drewN | apply below_drew1) | exact HB.out))) A6.out).mono ?_); rintro e w9 ⟨v287, rfl, ho0, hb⟩; have n0_ := Aside0.mk (Kd.R_lower ho0 (below_size (by repeat (first | (with_reducible first | exact HB.out | apply below_alloc | apply pw_below_drewN | apply below_drew1) | exact HB.out)))); have n1_ := Aside0.mk (below_step (by repeat (first | (with_reducible first | exact HB.out | apply below_alloc | apply pw_below_drewN | apply below_drew1) | exact HB.out)) hb); clear HB; have HO288 := n0_; have HB := n1_; clear n0_ n1_; (try clear hb); (try clear hb2); (try clear hk); (try clear hi); (try clear ho0))); go_upto_region 4 with (first | (go_at_call 11; (with_reducible refine (whittlelaw4_able.calls k  true _ (LaidG.below HGL.out (by repeat (first | (with_reducible first | exact HB.out | apply below_alloc | apply pw_below_drewN | apply below_drew1) | exact HB.out))) A4.out).mono ?_); rintro e w8 ⟨rfl, hb⟩; have n0_ := Aside0.mk (below_step (by repeat (first | (with_reducible first | exact HB.out | apply below_alloc | apply pw_below_drewN | apply below_drew1) | exact HB.out)) hb); clear HB; have HB := n0_; clear n0_; (try clear hb); (try clear hb2); (try clear hk); (try clear hi)) | (go_at_call 9; (with_reducible refine (lex_Scan.calls k a0 t284 t285 t286 _ (LaidG.below HGL.out (by repeat (first | (with_reducible first | exact HB.out | apply below_alloc | apply pw_below_drewN | apply below_drew1) | exact HB.out))) A6.out).mono ?_); rintro e w9 ⟨v287, rfl, ho0, hb⟩; have n0_ := Aside0.mk (Kd.R_lower ho0 (below_size (by repeat (first | (with_reducible first | exact HB.out | apply below_alloc | apply pw_below_drewN | apply below_drew1) | exact HB.out)))); have n1_ := Aside0.mk (below_step (by repeat (first | (with_reducible first | exact HB.out | apply below_alloc | apply pw_below_drewN | apply below_drew1) | exact HB.out)) hb); clear HB; have HO288 := n0_; have HB := n1_; clear n0_ n1_; (try clear hb); (try clear hb2); (try clear hk); (try clear hi); (try clear ho0))))
    (try simp only [Act.put, List.setIfInBounds_toArray, List.set_cons_zero, List.set_cons_succ])
    go_cut [33] (fun v33 wc => ∃ (kq : Nat) (x33_6 : Bool), v33 = .bool x33_6 ∧ Aside0 (whittlelaw4_LexBlanks.j0 kq a0 a1 a2 t284 x33_6 = some r) ∧ Aside0 (kq ≤ k) ∧ Aside0 (Kd.R k31 31 wc w.heap.size (fun _ => True) v287 t284) ∧ Aside0 (Below w.heap.size w wc))
    case first =>
      have H := HC7.out
      clear HC7
      by_cases c10 : t285 = 0
      · rw [if_pos c10] at H
        have c10b0 : (t285 == 0) = true := beq_iff_eq.mpr c10
        have c10b1 : (t285 != 0) = false := bne_eq_false_iff_eq.mpr c10
        clear c10
        (first | rw [c10b0] | (simp only [i64_w, i32_w]; rw [c10b0]) | skip)
        have H' := Aside0.mk H
        clear H
        obtain ⟨Ao11, co11, eo11⟩ := Kd.R_slice HO288.out
        subst eo11
        go_wp2
        repeat (go_quiet (fail); try go_wp2)
        go_meet
        case rel => exact ⟨_, (((t284.length : Int) == 0)), (by first | rfl | (simp; done) | (simp [*]; done)), H', ⟨by first | omega | exact Nat.le_refl _⟩, ⟨by (with_reducible repeat (first | apply Kd.R_alloc | apply Kd.R_drewN | apply Kd.R_drew)); exact HO288.out⟩, ⟨by repeat (first | (with_reducible first | exact HB.out | apply below_alloc | apply pw_below_drewN | apply below_drew1) | exact HB.out)⟩⟩
      · rw [if_neg c10] at H
        have c10b0 : (t285 == 0) = false := beq_eq_false_iff_ne.mpr c10
        have c10b1 : (t285 != 0) = true := bne_iff_ne.mpr c10
        (first | rw [c10b0] | (simp only [i64_w, i32_w]; rw [c10b0]) | skip)
        have H' := Aside0.mk H
        clear H
        go_wp2
        repeat (go_quiet (fail); try go_wp2)
        go_meet
        case rel => exact ⟨_, (true), (by first | rfl | (simp; done) | (simp [*]; done)), H', ⟨by first | omega | exact Nat.le_refl _⟩, ⟨by (with_reducible repeat (first | apply Kd.R_alloc | apply Kd.R_drewN | apply Kd.R_drew)); exact HO288.out⟩, ⟨by repeat (first | (with_reducible first | exact HB.out | apply below_alloc | apply pw_below_drewN | apply below_drew1) | exact HB.out)⟩⟩
    case rest =>
      clear HC7
      try clear c1
      try clear p2
      try clear c5
      try clear c7
      try clear c10
      try clear c10b0
      try clear c10b1
      obtain ⟨kq, x33_6, rfl, HA, HJ6, HO_7, HB⟩ := hcut
      cases kq with
      | zero => exact absurd HA.out (by simp [whittlelaw4_LexBlanks.j0])
      | succ kj6 =>
        have H := HA.out
        clear HA
        simp only [whittlelaw4_LexBlanks.j0] at H
        by_cases c12 : x33_6 = true
        · subst c12
          have H1 : (some true) = some r := by rw [if_pos rfl] at H; exact H
          clear H
          have H := H1
          clear H1
          obtain rfl := Option.some.inj H
          go_wp2
          repeat (go_quiet (fail); try go_wp2)
          go_ret
          exact ⟨by first | rfl | (simp [errW_none, errW_some] <;> rfl) | (simp [*, errW_none, errW_some] <;> rfl), by repeat (first | (with_reducible first | exact HB.out | apply below_alloc | apply pw_below_drewN | apply below_drew1) | exact HB.out)⟩
        · replace c12 := Bool.eq_false_iff.mpr c12
          subst c12
          have H1 : (if (wrap64 ((t284.length : Int) + 1)) = 0 then (none) else (if (Int.tmod a1 (wrap64 ((t284.length : Int) + 1))) < 0 then (whittlelaw4_LexBlanks.j1 kj6 a0 a2 t284 (wrap64 ((wrap64 ((Int.tmod a1 (wrap64 ((t284.length : Int) + 1))) + (t284.length : Int))) + 1))) else (whittlelaw4_LexBlanks.j1 kj6 a0 a2 t284 (Int.tmod a1 (wrap64 ((t284.length : Int) + 1)))))) = some r := by rw [if_neg (show ¬ (false = true) by decide)] at H; exact H
          clear H
          have H := H1
          clear H1
          by_cases c13 : (wrap64 ((t284.length : Int) + 1)) = 0
          · rw [if_pos c13] at H
            exact absurd H (by simp)
          · rw [if_neg c13] at H
            have c13b0 : ((wrap64 ((t284.length : Int) + 1)) == 0) = false := beq_eq_false_iff_ne.mpr c13
            have c13b1 : ((wrap64 ((t284.length : Int) + 1)) != 0) = true := bne_iff_ne.mpr c13
            have HC14 := Aside0.mk H
            clear H
            obtain ⟨Ao15, co15, eo15⟩ := Kd.R_slice HO_7.out
            subst eo15
            go_upto_if 40 with (fail)
            repeat (go_quiet (fail); go_upto_if 40 with (fail))
            go_cut [10] (fun v10 wc => ∃ (kq : Nat) (x10_13 : Int), v10 = .int .i64 x10_13 ∧ Aside0 (whittlelaw4_LexBlanks.j1 kq a0 a2 t284 x10_13 = some r) ∧ Aside0 (kq ≤ kj6) ∧ Aside0 (Kd.R k31 31 wc w.heap.size (fun _ => True) (.slice Ao15 t284.length co15) t284) ∧ Aside0 (Below w.heap.size w wc))
            case first =>
              have H := HC14.out
              clear HC14
              by_cases c16 : (Int.tmod a1 (wrap64 ((t284.length : Int) + 1))) < 0
              · rw [if_pos c16] at H
                have c16b0 : decide ((Int.tmod a1 (wrap64 ((t284.length : Int) + 1))) < 0) = true := decide_eq_true c16
                clear c16
                (first | rw [c16b0] | (simp only [i64_w, i32_w]; rw [c16b0]) | skip)
                have H' := Aside0.mk H
                clear H
                go_wp2
                repeat (go_quiet (fail); try go_wp2)
                go_meet
                case rel => exact ⟨_, (wrap64 ((wrap64 ((Int.tmod a1 (wrap64 ((t284.length : Int) + 1))) + (t284.length : Int))) + 1)), (by first | rfl | (simp; done) | (simp [*]; done)), H', ⟨by have := HJ6.out; first | omega | exact Nat.le_refl _⟩, ⟨by (with_reducible repeat (first | apply Kd.R_alloc | apply Kd.R_drewN | apply Kd.R_drew)); exact HO_7.out⟩, ⟨by repeat (first | (with_reducible first | exact HB.out | apply below_alloc | apply pw_below_drewN | apply below_drew1) | exact HB.out)⟩⟩
              · rw [if_neg c16] at H
                have c16b0 : decide ((Int.tmod a1 (wrap64 ((t284.length : Int) + 1))) < 0) = false := decide_eq_false c16
                clear c16
                (first | rw [c16b0] | (simp only [i64_w, i32_w]; rw [c16b0]) | skip)
                have H' := Aside0.mk H
                clear H
                go_wp2
                repeat (go_quiet (fail); try go_wp2)
                go_meet
                case rel => exact ⟨_, (Int.tmod a1 (wrap64 ((t284.length : Int) + 1))), (by first | rfl | (simp; done) | (simp [*]; done)), H', ⟨by have := HJ6.out; first | omega | exact Nat.le_refl _⟩, ⟨by (with_reducible repeat (first | apply Kd.R_alloc | apply Kd.R_drewN | apply Kd.R_drew)); exact HO_7.out⟩, ⟨by repeat (first | (with_reducible first | exact HB.out | apply below_alloc | apply pw_below_drewN | apply below_drew1) | exact HB.out)⟩⟩
            case rest =>
              clear HC14
              try clear c1
              try clear p2
              try clear c5
              try clear p6
              try clear c7
              try clear c10
              try clear c10b0
              try clear c10b1
              try clear c12
              try clear c13
              try clear c13b0
              try clear c13b1
              try clear c16
              try clear c16b0
              try clear p2
              obtain ⟨kq, x10_13, rfl, HA, HJ13, HO_7, HB⟩ := hcut
              cases kq with
              | zero => exact absurd HA.out (by simp [whittlelaw4_LexBlanks.j1])
              | succ kj13 =>
                have H := HA.out
                clear HA
                simp only [whittlelaw4_LexBlanks.j1] at H
                have HC17 := Aside0.mk H
                clear H
                go_upto_if 51 with (fail)
                repeat (go_quiet (fail); go_upto_if 51 with (fail))
                go_cut [11] (fun v11 wc => ∃ (kq : Nat) (x11_16 : Int), v11 = .int .i64 x11_16 ∧ Aside0 (whittlelaw4_LexBlanks.j2 kq a0 a2 t284 x10_13 x11_16 = some r) ∧ Aside0 (kq ≤ kj13) ∧ Aside0 (Kd.R k31 31 wc w.heap.size (fun _ => True) (.slice Ao15 t284.length co15) t284) ∧ Aside0 (Below w.heap.size w wc))
                case first =>
                  have H := HC17.out
                  clear HC17
                  by_cases c18 : x10_13 < (t284.length : Int)
                  · rw [if_pos c18] at H
                    have c18b0 : decide (x10_13 < (t284.length : Int)) = true := decide_eq_true c18
                    clear c18
                    (first | rw [c18b0] | (simp only [i64_w, i32_w]; rw [c18b0]) | skip)
                    by_cases c19 : 0 ≤ x10_13
                    · rw [if_pos c19] at H
                      have c19b0 : decide (0 ≤ x10_13) = true := decide_eq_true c19
                      clear c19
                      have H' := Aside0.mk H
                      clear H
                      have p289 : 0 ≤ (x10_13 : Int) := of_decide_eq_true (by first | (with_reducible assumption) | assumption)
                      have q289 : x10_13 < (t284.length : Int) := of_decide_eq_true (by first | (with_reducible assumption) | assumption)
                      obtain ⟨ad289, e289, hx289_0, hx289_1, hx289_2⟩ := at_T31 (Kd.R_reads' HO_7.out).2.2 x10_13 p289 q289
                      cases e289
                      replace p289 := eq_true p289
                      replace q289 := eq_true q289
                      go_wp2
                      repeat (go_quiet (fail); try go_wp2)
                      go_meet
                      case rel => exact ⟨_, ((rd_T31 t284 x10_13).f2), (by first | rfl | (simp; done) | (simp [*]; done)), H', ⟨by have := HJ6.out; have := HJ13.out; first | omega | exact Nat.le_refl _⟩, ⟨by (with_reducible repeat (first | apply Kd.R_alloc | apply Kd.R_drewN | apply Kd.R_drew)); exact HO_7.out⟩, ⟨by repeat (first | (with_reducible first | exact HB.out | apply below_alloc | apply pw_below_drewN | apply below_drew1) | exact HB.out)⟩⟩
                    · rw [if_neg c19] at H
                      exact absurd H (by simp)
                  · rw [if_neg c18] at H
                    have c18b0 : decide (x10_13 < (t284.length : Int)) = false := decide_eq_false c18
                    clear c18
                    (first | rw [c18b0] | (simp only [i64_w, i32_w]; rw [c18b0]) | skip)
                    have H' := Aside0.mk H
                    clear H
                    go_wp2
                    repeat (go_quiet (fail); try go_wp2)
                    go_meet
                    case rel => exact ⟨_, ((a0.size : Int)), (by first | rfl | (simp; done) | (simp [*]; done)), H', ⟨by have := HJ6.out; have := HJ13.out; first | omega | exact Nat.le_refl _⟩, ⟨by (with_reducible repeat (first | apply Kd.R_alloc | apply Kd.R_drewN | apply Kd.R_drew)); exact HO_7.out⟩, ⟨by repeat (first | (with_reducible first | exact HB.out | apply below_alloc | apply pw_below_drewN | apply below_drew1) | exact HB.out)⟩⟩
                case rest =>
                  clear HC17
                  try clear c1
                  try clear p2
                  try clear q2
                  try clear hx2
                  try clear c5
                  try clear p6
                  try clear c7
                  try clear c10
                  try clear c10b0
                  try clear c10b1
                  try clear c12
                  try clear c13
                  try clear c13b0
                  try clear c13b1
                  try clear c16
                  try clear c16b0
                  try clear c18
                  try clear c18b0
                  try clear c19
                  try clear c19b0
                  try clear hx289_0
                  try clear hx289_1
                  try clear hx289_2
                  try clear p2
                  try clear p289
                  try clear p6
                  try clear q289
                  obtain ⟨kq, x11_16, rfl, HA, HJ16, HO_7, HB⟩ := hcut
                  cases kq with
                  | zero => exact absurd HA.out (by simp [whittlelaw4_LexBlanks.j2])
                  | succ kj16 =>
                    have H := HA.out
                    clear HA
                    simp only [whittlelaw4_LexBlanks.j2] at H
                    by_cases c20 : 0 ≤ x11_16
                    · rw [if_pos c20] at H
                      have c20b0 := eq_true c20
                      have c20b1 : decide (0 ≤ x11_16) = true := decide_eq_true c20
                      clear c20
                      by_cases c21 : x11_16 ≤ (a0.size : Int)
                      · rw [if_pos c21] at H
                        have c21b0 := eq_true c21
                        have c21b1 : decide (x11_16 ≤ (a0.size : Int)) = true := decide_eq_true c21
                        clear c21
                        have H' := Aside0.mk H
                        clear H
                        go_wp2
                        repeat (go_quiet (fail); try go_wp2)
                        go_loopg [12, 13] kj16 (fun kq v12 v13 w' => ∃ (x12_4 : ByteArray) (x13_4 : Int), v12 = .string x12_4 ∧ v13 = .int .i64 x13_4 ∧ Aside0 (whittlelaw4_LexBlanks.l0 kq a0 a2 t284 x10_13 x11_16 x12_4 x13_4 = some r) ∧ Aside0 (kq ≤ kj16) ∧ Aside0 (Kd.R k31 31 w' w.heap.size (fun _ => True) (.slice Ao15 t284.length co15) t284) ∧ Aside0 (Below w.heap.size w w'))
                        case atStart => exact ⟨(a0.extract 0 (x11_16 : Int).toNat), (0), (by first | rfl | (simp; done) | (simp [*]; done)), (by first | rfl | (simp; done) | (simp [*]; done)), H', ⟨Nat.le_refl _⟩, ⟨by (with_reducible repeat (first | apply Kd.R_alloc | apply Kd.R_drewN | apply Kd.R_drew)); exact HO_7.out⟩, ⟨by repeat (first | (with_reducible first | exact HB.out | apply below_alloc | apply pw_below_drewN | apply below_drew1) | exact HB.out)⟩⟩
                        case round =>
                          clear H'
                          try clear c1
                          try clear c2
                          try clear p2
                          try clear q2
                          try clear hx2
                          try clear c5
                          try clear p6
                          try clear c7
                          try clear c10
                          try clear c10b0
                          try clear c10b1
                          try clear c12
                          try clear c13
                          try clear c13b0
                          try clear c13b1
                          try clear c16
                          try clear c16b0
                          try clear c18
                          try clear c18b0
                          try clear c19
                          try clear c19b0
                          try clear c20
                          try clear c20b0
                          try clear c20b1
                          try clear c21
                          try clear c21b0
                          try clear c21b1
                          try clear hx289_0
                          try clear hx289_1
                          try clear hx289_2
                          try clear p2
                          try clear p289
                          try clear p6
                          try clear q2
                          try clear q289
                          obtain ⟨x12_4, x13_4, rfl, rfl, HA, HK4, HO_7, HB⟩ := hrel
                          cases gk with
                          | zero => exact absurd HA.out (by simp [whittlelaw4_LexBlanks.l0])
                          | succ k4 =>
                            have H := HA.out
                            clear HA
                            simp only [whittlelaw4_LexBlanks.l0] at H
                            by_cases c22 : x13_4 ≤ (Go.bits .and .i64 a2 7)
                            · rw [if_pos c22] at H
                              have c22b0 : decide (x13_4 ≤ (Go.bits .and .i64 a2 7)) = true := decide_eq_true c22
                              clear c22
                              by_cases c23 : x12_4.size + 1 ≤ 9223372036854775807
                              · rw [if_pos c23] at H
                                have c23b0 := eq_true c23
                                have c23b1 : decide (x12_4.size + 1 ≤ 9223372036854775807) = true := decide_eq_true c23
                                try have c23b2 : (9223372036854775807 < x12_4.size + 1) = False := eq_false (Nat.not_lt.2 c23)
                                have H' := Aside0.mk H
                                clear H
                                go_wp2
                                repeat (go_quiet (fail); try go_wp2)
                                go_roundg k4
                                case measure => have := HJ6.out; have := HJ13.out; have := HJ16.out; have := HK4.out; omega
                                case rel => exact ⟨(x12_4 ++ (⟨#[32]⟩ : ByteArray)), (wrap64 (x13_4 + 1)), (by first | rfl | (simp; done) | (simp [*]; done)), (by first | rfl | (simp; done) | (simp [*]; done)), H', ⟨by have := HJ6.out; have := HJ13.out; have := HJ16.out; have := HK4.out; omega⟩, ⟨by (with_reducible repeat (first | apply Kd.R_alloc | apply Kd.R_drewN | apply Kd.R_drew)); exact HO_7.out⟩, ⟨by repeat (first | (with_reducible first | exact HB.out | apply below_alloc | apply pw_below_drewN | apply below_drew1) | exact HB.out)⟩⟩
                              · rw [if_neg c23] at H
                                exact absurd H (by simp)
                            · rw [if_neg c22] at H
                              have c22b0 : decide (x13_4 ≤ (Go.bits .and .i64 a2 7)) = false := decide_eq_false c22
                              clear c22
                              by_cases c24 : 0 ≤ x11_16
                              · rw [if_pos c24] at H
                                have c24b0 := eq_true c24
                                have c24b1 : decide (0 ≤ x11_16) = true := decide_eq_true c24
                                clear c24
                                by_cases c25 : x11_16 ≤ (a0.size : Int)
                                · rw [if_pos c25] at H
                                  have c25b0 := eq_true c25
                                  have c25b1 : decide (x11_16 ≤ (a0.size : Int)) = true := decide_eq_true c25
                                  clear c25
                                  by_cases c26 : x12_4.size + (a0.extract (x11_16 : Int).toNat a0.size).size ≤ 9223372036854775807
                                  · rw [if_pos c26] at H
                                    have c26b0 := eq_true c26
                                    have c26b1 : decide (x12_4.size + (a0.extract (x11_16 : Int).toNat a0.size).size ≤ 9223372036854775807) = true := decide_eq_true c26
                                    try have c26b2 : (9223372036854775807 < x12_4.size + (a0.extract (x11_16 : Int).toNat a0.size).size) = False := eq_false (Nat.not_lt.2 c26)
                                    replace H := Option.bind_eq_some_iff.mp H
                                    obtain ⟨⟨t290, t291, t292⟩, A270, H⟩ := H
                                    replace H : (if ((x12_4 ++ (a0.extract (x11_16 : Int).toNat a0.size)).size : Int) > 1024 then (some (t291 == 2)) else (if t291 = 0 then ((whittlelaw4_alike.f k4 t284 t290).bind fun t295 => (whittlelaw4_LexBlanks.j4 k4 a2 t284 x10_13 t290 (!t295))) else (whittlelaw4_LexBlanks.j4 k4 a2 t284 x10_13 t290 true))) = some r := H
                                    have A27 := Aside0.mk A270
                                    clear A270
                                    by_cases c28 : ((x12_4 ++ (a0.extract (x11_16 : Int).toNat a0.size)).size : Int) > 1024
                                    · rw [if_pos c28] at H
                                      have c28b0 : decide (1024 < ((x12_4 ++ (a0.extract (x11_16 : Int).toNat a0.size)).size : Int)) = true := decide_eq_true c28
                                      have c28b1 : decide (1024 < (x12_4 ++ (a0.extract (x11_16 : Int).toNat a0.size)).size) = true := decide_eq_true (by omega); have c28b7 : (1024 < (x12_4.size : Int) + ((a0.size - (x11_16).toNat : Nat) : Int)) = True := eq_true (by have hz := c28; rw [ByteArray.size_append, ByteArray.size_extract, Nat.min_self] at hz; omega); have c28b8 : decide (1024 < (x12_4.size : Int) + ((a0.size - (x11_16).toNat : Nat) : Int)) = true := decide_eq_true (by have hz := c28; rw [ByteArray.size_append, ByteArray.size_extract, Nat.min_self] at hz; omega); have c28b9 : ((x12_4.size : Int) + ((a0.size - (x11_16).toNat : Nat) : Int) ≤ 1024) = False := eq_false (by have hz := c28; rw [ByteArray.size_append, ByteArray.size_extract, Nat.min_self] at hz; omega)
                                      clear c28
                                      obtain rfl := Option.some.inj H
                                      go_wp2_with (first | (go_at_call 9; (with_reducible refine (lex_Scan.calls k4 (x12_4 ++ (a0.extract (x11_16 : Int).toNat a0.size)) t290 t291 t292 _ (LaidG.below HGL.out (by repeat (first | (with_reducible first | exact HB.out | apply below_alloc | apply pw_below_drewN | apply below_drew1) | exact HB.out))) A27.out).mono ?_); rintro e w29 ⟨v293, rfl, ho0, hb⟩; have n0_ := Aside0.mk (Kd.R_elder' (by (with_reducible repeat (first | apply Kd.R_alloc | apply Kd.R_drewN | apply Kd.R_drew)); exact HO_7.out) (Kd.R_base ho0) hb); have n1_ := Aside0.mk (Kd.R_lower (Kd.R_new' ho0 (Kd.R_lt (by (with_reducible repeat (first | apply Kd.R_alloc | apply Kd.R_drewN | apply Kd.R_drew)); exact HO_7.out))) (below_size (by repeat (first | (with_reducible first | exact HB.out | apply below_alloc | apply pw_below_drewN | apply below_drew1) | exact HB.out)))); have n2_ := Aside0.mk (below_step (by repeat (first | (with_reducible first | exact HB.out | apply below_alloc | apply pw_below_drewN | apply below_drew1) | exact HB.out)) hb); clear HO_7; clear HB; have HO_7 := n0_; have HO294 := n1_; have HB := n2_; clear n0_ n1_ n2_; (try clear hb); (try clear hb2); (try clear hk); (try clear hi); (try clear ho0)))
                                      repeat (go_quiet (first | (go_at_call 9; (with_reducible refine (lex_Scan.calls k4 (x12_4 ++ (a0.extract (x11_16 : Int).toNat a0.size)) t290 t291 t292 _ (LaidG.below HGL.out (by repeat (first | (with_reducible first | exact HB.out | apply below_alloc | apply pw_below_drewN | apply below_drew1) | exact HB.out))) A27.out).mono ?_); rintro e w29 ⟨v293, rfl, ho0, hb⟩; have n0_ := Aside0.mk (Kd.R_elder' (by (with_reducible repeat (first | apply Kd.R_alloc | apply Kd.R_drewN | apply Kd.R_drew)); exact HO_7.out) (Kd.R_base ho0) hb); have n1_ := Aside0.mk (Kd.R_lower (Kd.R_new' ho0 (Kd.R_lt (by (with_reducible repeat (first | apply Kd.R_alloc | apply Kd.R_drewN | apply Kd.R_drew)); exact HO_7.out))) (below_size (by repeat (first | (with_reducible first | exact HB.out | apply below_alloc | apply pw_below_drewN | apply below_drew1) | exact HB.out)))); have n2_ := Aside0.mk (below_step (by repeat (first | (with_reducible first | exact HB.out | apply below_alloc | apply pw_below_drewN | apply below_drew1) | exact HB.out)) hb); clear HO_7; clear HB; have HO_7 := n0_; have HO294 := n1_; have HB := n2_; clear n0_ n1_ n2_; (try clear hb); (try clear hb2); (try clear hk); (try clear hi); (try clear ho0))); try go_wp2_with (first | (go_at_call 9; (with_reducible refine (lex_Scan.calls k4 (x12_4 ++ (a0.extract (x11_16 : Int).toNat a0.size)) t290 t291 t292 _ (LaidG.below HGL.out (by repeat (first | (with_reducible first | exact HB.out | apply below_alloc | apply pw_below_drewN | apply below_drew1) | exact HB.out))) A27.out).mono ?_); rintro e w29 ⟨v293, rfl, ho0, hb⟩; have n0_ := Aside0.mk (Kd.R_elder' (by (with_reducible repeat (first | apply Kd.R_alloc | apply Kd.R_drewN | apply Kd.R_drew)); exact HO_7.out) (Kd.R_base ho0) hb); have n1_ := Aside0.mk (Kd.R_lower (Kd.R_new' ho0 (Kd.R_lt (by (with_reducible repeat (first | apply Kd.R_alloc | apply Kd.R_drewN | apply Kd.R_drew)); exact HO_7.out))) (below_size (by repeat (first | (with_reducible first | exact HB.out | apply below_alloc | apply pw_below_drewN | apply below_drew1) | exact HB.out)))); have n2_ := Aside0.mk (below_step (by repeat (first | (with_reducible first | exact HB.out | apply below_alloc | apply pw_below_drewN | apply below_drew1) | exact HB.out)) hb); clear HO_7; clear HB; have HO_7 := n0_; have HO294 := n1_; have HB := n2_; clear n0_ n1_ n2_; (try clear hb); (try clear hb2); (try clear hk); (try clear hi); (try clear ho0))))
                                      go_ret
                                      exact ⟨by first | rfl | (simp [errW_none, errW_some] <;> rfl) | (simp [*, errW_none, errW_some] <;> rfl), by repeat (first | (with_reducible first | exact HB.out | apply below_alloc | apply pw_below_drewN | apply below_drew1) | exact HB.out)⟩
                                    · rw [if_neg c28] at H
                                      have c28b0 : decide (1024 < ((x12_4 ++ (a0.extract (x11_16 : Int).toNat a0.size)).size : Int)) = false := decide_eq_false c28
                                      have c28b1 : decide (1024 < (x12_4 ++ (a0.extract (x11_16 : Int).toNat a0.size)).size) = false := decide_eq_false (by omega); have c28b7 : (1024 < (x12_4.size : Int) + ((a0.size - (x11_16).toNat : Nat) : Int)) = False := eq_false (by have hz := c28; rw [ByteArray.size_append, ByteArray.size_extract, Nat.min_self] at hz; omega); have c28b8 : decide (1024 < (x12_4.size : Int) + ((a0.size - (x11_16).toNat : Nat) : Int)) = false := decide_eq_false (by have hz := c28; rw [ByteArray.size_append, ByteArray.size_extract, Nat.min_self] at hz; omega); have c28b9 : ((x12_4.size : Int) + ((a0.size - (x11_16).toNat : Nat) : Int) ≤ 1024) = True := eq_true (by have hz := c28; rw [ByteArray.size_append, ByteArray.size_extract, Nat.min_self] at hz; omega)
                                      clear c28
                                      have HC30 := Aside0.mk H
                                      clear H
                                      go_upto_region 21 with (first | (go_at_call 9; (with_reducible refine (lex_Scan.calls k4 (x12_4 ++ (a0.extract (x11_16 : Int).toNat a0.size)) t290 t291 t292 _ (LaidG.below HGL.out (by repeat (first | (with_reducible first | exact HB.out | apply below_alloc | apply pw_below_drewN | apply below_drew1) | exact HB.out))) A27.out).mono ?_); rintro e w31 ⟨v293, rfl, ho0, hb⟩; have n0_ := Aside0.mk (Kd.R_elder' (by (with_reducible repeat (first | apply Kd.R_alloc | apply Kd.R_drewN | apply Kd.R_drew)); exact HO_7.out) (Kd.R_base ho0) hb); have n1_ := Aside0.mk (Kd.R_lower (Kd.R_new' ho0 (Kd.R_lt (by (with_reducible repeat (first | apply Kd.R_alloc | apply Kd.R_drewN | apply Kd.R_drew)); exact HO_7.out))) (below_size (by repeat (first | (with_reducible first | exact HB.out | apply below_alloc | apply pw_below_drewN | apply below_drew1) | exact HB.out)))); have n2_ := Aside0.mk (below_step (by repeat (first | (with_reducible first | exact HB.out | apply below_alloc | apply pw_below_drewN | apply below_drew1) | exact HB.out)) hb); clear HO_7; clear HB; have HO_7 := n0_; have HO294 := n1_; have HB := n2_; clear n0_ n1_ n2_; (try clear hb); (try clear hb2); (try clear hk); (try clear hi); (try clear ho0)))
                                      repeat (go_quiet (first | (go_at_call 9; (with_reducible refine (lex_Scan.calls k4 (x12_4 ++ (a0.extract (x11_16 : Int).toNat a0.size)) t290 t291 t292 _ (LaidG.below HGL.out (by repeat (first | (with_reducible first | exact HB.out | apply below_alloc | apply pw_below_drewN | apply below_drew1) | exact HB.out))) A27.out).mono ?_); rintro e w31 ⟨v293, rfl, ho0, hb⟩; have n0_ := Aside0.mk (Kd.R_elder' (by (with_reducible repeat (first | apply Kd.R_alloc | apply Kd.R_drewN | apply Kd.R_drew)); exact HO_7.out) (Kd.R_base ho0) hb); have n1_ := Aside0.mk (Kd.R_lower (Kd.R_new' ho0 (Kd.R_lt (by (with_reducible repeat (first | apply Kd.R_alloc | apply Kd.R_drewN | apply Kd.R_drew)); exact HO_7.out))) (below_size (by repeat (first | (with_reducible first | exact HB.out | apply below_alloc | apply pw_below_drewN | apply below_drew1) | exact HB.out)))); have n2_ := Aside0.mk (below_step (by repeat (first | (with_reducible first | exact HB.out | apply below_alloc | apply pw_below_drewN | apply below_drew1) | exact HB.out)) hb); clear HO_7; clear HB; have HO_7 := n0_; have HO294 := n1_; have HB := n2_; clear n0_ n1_ n2_; (try clear hb); (try clear hb2); (try clear hk); (try clear hi); (try clear ho0))); go_upto_region 21 with (first | (go_at_call 9; (with_reducible refine (lex_Scan.calls k4 (x12_4 ++ (a0.extract (x11_16 : Int).toNat a0.size)) t290 t291 t292 _ (LaidG.below HGL.out (by repeat (first | (with_reducible first | exact HB.out | apply below_alloc | apply pw_below_drewN | apply below_drew1) | exact HB.out))) A27.out).mono ?_); rintro e w31 ⟨v293, rfl, ho0, hb⟩; have n0_ := Aside0.mk (Kd.R_elder' (by (with_reducible repeat (first | apply Kd.R_alloc | apply Kd.R_drewN | apply Kd.R_drew)); exact HO_7.out) (Kd.R_base ho0) hb); have n1_ := Aside0.mk (Kd.R_lower (Kd.R_new' ho0 (Kd.R_lt (by (with_reducible repeat (first | apply Kd.R_alloc | apply Kd.R_drewN | apply Kd.R_drew)); exact HO_7.out))) (below_size (by repeat (first | (with_reducible first | exact HB.out | apply below_alloc | apply pw_below_drewN | apply below_drew1) | exact HB.out)))); have n2_ := Aside0.mk (below_step (by repeat (first | (with_reducible first | exact HB.out | apply below_alloc | apply pw_below_drewN | apply below_drew1) | exact HB.out)) hb); clear HO_7; clear HB; have HO_7 := n0_; have HO294 := n1_; have HB := n2_; clear n0_ n1_ n2_; (try clear hb); (try clear hb2); (try clear hk); (try clear hi); (try clear ho0))))
                                      (try simp only [Act.put, List.setIfInBounds_toArray, List.set_cons_zero, List.set_cons_succ])
                                      go_cut [91] (fun v91 wc => ∃ (kq : Nat) (x91_29 : Bool), v91 = .bool x91_29 ∧ Aside0 (whittlelaw4_LexBlanks.j4 kq a2 t284 x10_13 t290 x91_29 = some r) ∧ Aside0 (kq ≤ k4) ∧ Aside0 (Kd.R k31 31 wc w.heap.size (fun k_ => some k_ ≠ (v293 : Value).ownBlock) (.slice Ao15 t284.length co15) t284) ∧ Aside0 (Kd.R k31 31 wc w.heap.size (fun k_ => some k_ ≠ ((.slice Ao15 t284.length co15) : Value).ownBlock) v293 t290) ∧ Aside0 (Below w.heap.size w wc))
                                      case first =>
                                        have H := HC30.out
                                        clear HC30
                                        by_cases c32 : t291 = 0
                                        · rw [if_pos c32] at H
                                          have c32b0 : (t291 == 0) = true := beq_iff_eq.mpr c32
                                          have c32b1 : (t291 != 0) = false := bne_eq_false_iff_eq.mpr c32
                                          clear c32
                                          (first | rw [c32b0] | (simp only [i64_w, i32_w]; rw [c32b0]) | skip)
                                          replace H := Option.bind_eq_some_iff.mp H
                                          obtain ⟨t295, A330, H⟩ := H
                                          replace H : (whittlelaw4_LexBlanks.j4 k4 a2 t284 x10_13 t290 (!t295)) = some r := H
                                          have A33 := Aside0.mk A330
                                          clear A330
                                          have H' := Aside0.mk H
                                          clear H
                                          obtain ⟨Ao34, co34, eo34⟩ := Kd.R_slice HO294.out
                                          subst eo34
                                          go_wp2_with (first | (go_at_call 16; (with_reducible refine (whittlelaw4_alike.calls k4 _ _ t284 _ _ t290 t295 _ ?side1 ?side2 ?side3 ?side4 A33.out).mono ?_); (case side1 => repeat (first | exact (Kd.R_reads' HO_7.out).2.2 | (with_reducible refine Kd.C_alloc ?_ _) | (with_reducible refine Kd.C_drewN ?_ _) | (with_reducible refine Kd.C_drew ?_))); (case side2 => exact (Kd.R_reads' HO_7.out).2.1); (case side3 => repeat (first | exact (Kd.R_reads' HO294.out).2.2 | (with_reducible refine Kd.C_alloc ?_ _) | (with_reducible refine Kd.C_drewN ?_ _) | (with_reducible refine Kd.C_drew ?_))); (case side4 => exact (Kd.R_reads' HO294.out).2.1); rintro e w' ⟨rfl, ⟨nd, rfl⟩⟩; (try first | exact ⟨rfl, _, World.drewN_drewN _ _ _⟩ | exact ⟨rfl, _, Eq.trans (World.drewN_drewN _ _ _) (congrArg (World.drewN _) (Nat.add_assoc _ _ _))⟩)))
                                          repeat (go_quiet (first | (go_at_call 16; (with_reducible refine (whittlelaw4_alike.calls k4 _ _ t284 _ _ t290 t295 _ ?side1 ?side2 ?side3 ?side4 A33.out).mono ?_); (case side1 => repeat (first | exact (Kd.R_reads' HO_7.out).2.2 | (with_reducible refine Kd.C_alloc ?_ _) | (with_reducible refine Kd.C_drewN ?_ _) | (with_reducible refine Kd.C_drew ?_))); (case side2 => exact (Kd.R_reads' HO_7.out).2.1); (case side3 => repeat (first | exact (Kd.R_reads' HO294.out).2.2 | (with_reducible refine Kd.C_alloc ?_ _) | (with_reducible refine Kd.C_drewN ?_ _) | (with_reducible refine Kd.C_drew ?_))); (case side4 => exact (Kd.R_reads' HO294.out).2.1); rintro e w' ⟨rfl, ⟨nd, rfl⟩⟩; (try first | exact ⟨rfl, _, World.drewN_drewN _ _ _⟩ | exact ⟨rfl, _, Eq.trans (World.drewN_drewN _ _ _) (congrArg (World.drewN _) (Nat.add_assoc _ _ _))⟩))); try go_wp2_with (first | (go_at_call 16; (with_reducible refine (whittlelaw4_alike.calls k4 _ _ t284 _ _ t290 t295 _ ?side1 ?side2 ?side3 ?side4 A33.out).mono ?_); (case side1 => repeat (first | exact (Kd.R_reads' HO_7.out).2.2 | (with_reducible refine Kd.C_alloc ?_ _) | (with_reducible refine Kd.C_drewN ?_ _) | (with_reducible refine Kd.C_drew ?_))); (case side2 => exact (Kd.R_reads' HO_7.out).2.1); (case side3 => repeat (first | exact (Kd.R_reads' HO294.out).2.2 | (with_reducible refine Kd.C_alloc ?_ _) | (with_reducible refine Kd.C_drewN ?_ _) | (with_reducible refine Kd.C_drew ?_))); (case side4 => exact (Kd.R_reads' HO294.out).2.1); rintro e w' ⟨rfl, ⟨nd, rfl⟩⟩; (try first | exact ⟨rfl, _, World.drewN_drewN _ _ _⟩ | exact ⟨rfl, _, Eq.trans (World.drewN_drewN _ _ _) (congrArg (World.drewN _) (Nat.add_assoc _ _ _))⟩))))
                                          go_meet
                                          case rel => exact ⟨_, (!t295), (by first | rfl | (simp; done) | (simp [*]; done)), H', ⟨by have := HJ6.out; have := HJ13.out; have := HJ16.out; have := HK4.out; first | omega | exact Nat.le_refl _⟩, ⟨by (with_reducible repeat (first | apply Kd.R_alloc | apply Kd.R_drewN | apply Kd.R_drew)); exact Kd.R_mono HO_7.out (fun _ hk => hk.2)⟩, ⟨by (with_reducible repeat (first | apply Kd.R_alloc | apply Kd.R_drewN | apply Kd.R_drew)); exact Kd.R_mono HO294.out (fun _ hk => hk.2)⟩, ⟨by repeat (first | (with_reducible first | exact HB.out | apply below_alloc | apply pw_below_drewN | apply below_drew1) | exact HB.out)⟩⟩
                                        · rw [if_neg c32] at H
                                          have c32b0 : (t291 == 0) = false := beq_eq_false_iff_ne.mpr c32
                                          have c32b1 : (t291 != 0) = true := bne_iff_ne.mpr c32
                                          (first | rw [c32b0] | (simp only [i64_w, i32_w]; rw [c32b0]) | skip)
                                          have H' := Aside0.mk H
                                          clear H
                                          go_wp2
                                          repeat (go_quiet (fail); try go_wp2)
                                          go_meet
                                          case rel => exact ⟨_, (true), (by first | rfl | (simp; done) | (simp [*]; done)), H', ⟨by have := HJ6.out; have := HJ13.out; have := HJ16.out; have := HK4.out; first | omega | exact Nat.le_refl _⟩, ⟨by (with_reducible repeat (first | apply Kd.R_alloc | apply Kd.R_drewN | apply Kd.R_drew)); exact Kd.R_mono HO_7.out (fun _ hk => hk.2)⟩, ⟨by (with_reducible repeat (first | apply Kd.R_alloc | apply Kd.R_drewN | apply Kd.R_drew)); exact Kd.R_mono HO294.out (fun _ hk => hk.2)⟩, ⟨by repeat (first | (with_reducible first | exact HB.out | apply below_alloc | apply pw_below_drewN | apply below_drew1) | exact HB.out)⟩⟩
                                      case rest =>
                                        clear HC30
                                        try clear c1
                                        try clear c2
                                        try clear p2
                                        try clear q2
                                        try clear hx2
                                        try clear c3
                                        try clear c5
                                        try clear p6
                                        try clear c7
                                        try clear c10
                                        try clear c10b0
                                        try clear c10b1
                                        try clear c12
                                        try clear c13
                                        try clear c13b0
                                        try clear c13b1
                                        try clear c16
                                        try clear c16b0
                                        try clear c18
                                        try clear c18b0
                                        try clear c19
                                        try clear c19b0
                                        try clear c20
                                        try clear c20b0
                                        try clear c20b1
                                        try clear c21
                                        try clear c21b0
                                        try clear c21b1
                                        try clear c22
                                        try clear c22b0
                                        try clear c23
                                        try clear c23b0
                                        try clear c23b1
                                        try clear c23b2
                                        try clear c24
                                        try clear c24b0
                                        try clear c24b1
                                        try clear c25
                                        try clear c25b0
                                        try clear c25b1
                                        try clear c26
                                        try clear c26b0
                                        try clear c26b1
                                        try clear c26b2
                                        try clear c28
                                        try clear c28b0
                                        try clear c28b1
                                        try clear p28
                                        try clear q28
                                        try clear hx28
                                        try clear c32
                                        try clear c32b0
                                        try clear c32b1
                                        try clear hx289_0
                                        try clear hx289_1
                                        try clear hx289_2
                                        try clear p2
                                        try clear p289
                                        try clear p6
                                        try clear q2
                                        try clear q289
                                        obtain ⟨kq, x91_29, rfl, HA, HJ29, HO_7, HO_14, HB⟩ := hcut
                                        cases kq with
                                        | zero => exact absurd HA.out (by simp [whittlelaw4_LexBlanks.j4])
                                        | succ kj29 =>
                                          have H := HA.out
                                          clear HA
                                          simp only [whittlelaw4_LexBlanks.j4] at H
                                          by_cases c35 : x91_29 = true
                                          · subst c35
                                            have H1 : (some false) = some r := by rw [if_pos rfl] at H; exact H
                                            clear H
                                            have H := H1
                                            clear H1
                                            obtain rfl := Option.some.inj H
                                            go_wp2
                                            repeat (go_quiet (fail); try go_wp2)
                                            go_ret
                                            exact ⟨by first | rfl | (simp [errW_none, errW_some] <;> rfl) | (simp [*, errW_none, errW_some] <;> rfl), by repeat (first | (with_reducible first | exact HB.out | apply below_alloc | apply pw_below_drewN | apply below_drew1) | exact HB.out)⟩
                                          · replace c35 := Bool.eq_false_iff.mpr c35
                                            subst c35
                                            have H1 : (whittlelaw4_LexBlanks.l1 kj29 a2 t284 x10_13 t290 0) = some r := by rw [if_neg (show ¬ (false = true) by decide)] at H; exact H
                                            clear H
                                            have H := H1
                                            clear H1
                                            have H' := Aside0.mk H
                                            clear H
                                            go_wp2
                                            repeat (go_quiet (fail); try go_wp2)
                                            go_loopg [17] kj29 (fun kq v17 w' => ∃ (x17_6 : Int), v17 = .int .i64 x17_6 ∧ Aside0 (whittlelaw4_LexBlanks.l1 kq a2 t284 x10_13 t290 x17_6 = some r) ∧ Aside0 (kq ≤ kj29) ∧ Aside0 (Kd.R k31 31 w' w.heap.size (fun k_ => some k_ ≠ (v293 : Value).ownBlock) (.slice Ao15 t284.length co15) t284) ∧ Aside0 (Kd.R k31 31 w' w.heap.size (fun k_ => some k_ ≠ ((.slice Ao15 t284.length co15) : Value).ownBlock) v293 t290) ∧ Aside0 (Below w.heap.size w w'))
                                            case atStart => exact ⟨(0), (by first | rfl | (simp; done) | (simp [*]; done)), H', ⟨Nat.le_refl _⟩, ⟨by (with_reducible repeat (first | apply Kd.R_alloc | apply Kd.R_drewN | apply Kd.R_drew)); exact HO_7.out⟩, ⟨by (with_reducible repeat (first | apply Kd.R_alloc | apply Kd.R_drewN | apply Kd.R_drew)); exact HO_14.out⟩, ⟨by repeat (first | (with_reducible first | exact HB.out | apply below_alloc | apply pw_below_drewN | apply below_drew1) | exact HB.out)⟩⟩
                                            case round =>
                                              clear H'
                                              try clear c1
                                              try clear c2
                                              try clear p2
                                              try clear q2
                                              try clear hx2
                                              try clear c3
                                              try clear c5
                                              try clear p6
                                              try clear c7
                                              try clear c10
                                              try clear c10b0
                                              try clear c10b1
                                              try clear c12
                                              try clear c13
                                              try clear c13b0
                                              try clear c13b1
                                              try clear c16
                                              try clear c16b0
                                              try clear c18
                                              try clear c18b0
                                              try clear c19
                                              try clear c19b0
                                              try clear c20
                                              try clear c20b0
                                              try clear c20b1
                                              try clear c21
                                              try clear c21b0
                                              try clear c21b1
                                              try clear c22
                                              try clear c22b0
                                              try clear c23
                                              try clear c23b0
                                              try clear c23b1
                                              try clear c23b2
                                              try clear c24
                                              try clear c24b0
                                              try clear c24b1
                                              try clear c25
                                              try clear c25b0
                                              try clear c25b1
                                              try clear c26
                                              try clear c26b0
                                              try clear c26b1
                                              try clear c26b2
                                              try clear c28
                                              try clear c28b0
                                              try clear c28b1
                                              try clear p28
                                              try clear q28
                                              try clear hx28
                                              try clear c32
                                              try clear c32b0
                                              try clear c32b1
                                              try clear c35
                                              try clear hx289_0
                                              try clear hx289_1
                                              try clear hx289_2
                                              try clear p2
                                              try clear p28
                                              try clear p289
                                              try clear p6
                                              try clear q2
                                              try clear q28
                                              try clear q289
                                              obtain ⟨x17_6, rfl, HA, HK6, HO_7, HO_14, HB⟩ := hrel
                                              cases gk with
                                              | zero => exact absurd HA.out (by simp [whittlelaw4_LexBlanks.l1])
                                              | succ k6 =>
                                                have H := HA.out
                                                clear HA
                                                simp only [whittlelaw4_LexBlanks.l1] at H
                                                by_cases c36 : x17_6 < (t284.length : Int)
                                                · rw [if_pos c36] at H
                                                  have c36b0 : decide (x17_6 < (t284.length : Int)) = true := decide_eq_true c36
                                                  clear c36
                                                  by_cases c37 : x17_6 ≥ x10_13
                                                  · rw [if_pos c37] at H
                                                    have c37b0 : decide (x10_13 ≤ x17_6) = true := decide_eq_true c37
                                                    clear c37
                                                    by_cases c38 : 0 ≤ x17_6
                                                    · rw [if_pos c38] at H
                                                      have c38b0 : decide (0 ≤ x17_6) = true := decide_eq_true c38
                                                      clear c38
                                                      by_cases c39 : x17_6 < (t290.length : Int)
                                                      · rw [if_pos c39] at H
                                                        have c39b0 : decide (x17_6 < (t290.length : Int)) = true := decide_eq_true c39
                                                        clear c39
                                                        by_cases c40 : ((rd_T31 t290 x17_6).f2) = (wrap64 (((rd_T31 t284 x17_6).f2) + (wrap64 ((Go.bits .and .i64 a2 7) + 1))))
                                                        · rw [if_pos c40] at H
                                                          have c40b0 : (((rd_T31 t290 x17_6).f2) == (wrap64 (((rd_T31 t284 x17_6).f2) + (wrap64 ((Go.bits .and .i64 a2 7) + 1))))) = true := beq_iff_eq.mpr c40
                                                          have c40b1 : (((rd_T31 t290 x17_6).f2) != (wrap64 (((rd_T31 t284 x17_6).f2) + (wrap64 ((Go.bits .and .i64 a2 7) + 1))))) = false := bne_eq_false_iff_eq.mpr c40
                                                          clear c40
                                                          have H' := Aside0.mk H
                                                          clear H
                                                          obtain ⟨Ao41, co41, eo41⟩ := Kd.R_slice HO_14.out
                                                          subst eo41
                                                          have p296 : 0 ≤ (x17_6 : Int) := of_decide_eq_true (by first | (with_reducible assumption) | assumption)
                                                          have q296 : x17_6 < (t290.length : Int) := of_decide_eq_true (by first | (with_reducible assumption) | assumption)
                                                          obtain ⟨ad296, e296, hx296_0, hx296_1, hx296_2⟩ := at_T31 (Kd.R_reads' HO_14.out).2.2 x17_6 p296 q296
                                                          cases e296
                                                          replace p296 := eq_true p296
                                                          replace q296 := eq_true q296
                                                          have p297 : 0 ≤ (x17_6 : Int) := of_decide_eq_true (by first | (with_reducible assumption) | assumption)
                                                          have q297 : x17_6 < (t284.length : Int) := of_decide_eq_true (by first | (with_reducible assumption) | assumption)
                                                          obtain ⟨ad297, e297, hx297_0, hx297_1, hx297_2⟩ := at_T31 (Kd.R_reads' HO_7.out).2.2 x17_6 p297 q297
                                                          cases e297
                                                          replace p297 := eq_true p297
                                                          replace q297 := eq_true q297
                                                          go_wp2
                                                          repeat (go_quiet (fail); try go_wp2)
                                                          go_roundg k6
                                                          case measure => have := HJ6.out; have := HJ13.out; have := HJ16.out; have := HK4.out; have := HJ29.out; have := HK6.out; omega
                                                          case rel => exact ⟨(wrap64 (x17_6 + 1)), (by first | rfl | (simp; done) | (simp [*]; done)), H', ⟨by have := HJ6.out; have := HJ13.out; have := HJ16.out; have := HK4.out; have := HJ29.out; have := HK6.out; omega⟩, ⟨by (with_reducible repeat (first | apply Kd.R_alloc | apply Kd.R_drewN | apply Kd.R_drew)); exact HO_7.out⟩, ⟨by (with_reducible repeat (first | apply Kd.R_alloc | apply Kd.R_drewN | apply Kd.R_drew)); exact HO_14.out⟩, ⟨by repeat (first | (with_reducible first | exact HB.out | apply below_alloc | apply pw_below_drewN | apply below_drew1) | exact HB.out)⟩⟩
                                                        · rw [if_neg c40] at H
                                                          have c40b0 : (((rd_T31 t290 x17_6).f2) == (wrap64 (((rd_T31 t284 x17_6).f2) + (wrap64 ((Go.bits .and .i64 a2 7) + 1))))) = false := beq_eq_false_iff_ne.mpr c40
                                                          have c40b1 : (((rd_T31 t290 x17_6).f2) != (wrap64 (((rd_T31 t284 x17_6).f2) + (wrap64 ((Go.bits .and .i64 a2 7) + 1))))) = true := bne_iff_ne.mpr c40
                                                          obtain rfl := Option.some.inj H
                                                          obtain ⟨Ao42, co42, eo42⟩ := Kd.R_slice HO_14.out
                                                          subst eo42
                                                          have p296 : 0 ≤ (x17_6 : Int) := of_decide_eq_true (by first | (with_reducible assumption) | assumption)
                                                          have q296 : x17_6 < (t290.length : Int) := of_decide_eq_true (by first | (with_reducible assumption) | assumption)
                                                          obtain ⟨ad296, e296, hx296_0, hx296_1, hx296_2⟩ := at_T31 (Kd.R_reads' HO_14.out).2.2 x17_6 p296 q296
                                                          cases e296
                                                          replace p296 := eq_true p296
                                                          replace q296 := eq_true q296
                                                          have p297 : 0 ≤ (x17_6 : Int) := of_decide_eq_true (by first | (with_reducible assumption) | assumption)
                                                          have q297 : x17_6 < (t284.length : Int) := of_decide_eq_true (by first | (with_reducible assumption) | assumption)
                                                          obtain ⟨ad297, e297, hx297_0, hx297_1, hx297_2⟩ := at_T31 (Kd.R_reads' HO_7.out).2.2 x17_6 p297 q297
                                                          cases e297
                                                          replace p297 := eq_true p297
                                                          replace q297 := eq_true q297
                                                          go_wp2
                                                          repeat (go_quiet (fail); try go_wp2)
                                                          go_ret
                                                          exact ⟨by first | rfl | (simp [errW_none, errW_some] <;> rfl) | (simp [*, errW_none, errW_some] <;> rfl), by repeat (first | (with_reducible first | exact HB.out | apply below_alloc | apply pw_below_drewN | apply below_drew1) | exact HB.out)⟩
                                                      · rw [if_neg c39] at H
                                                        exact absurd H (by simp)
                                                    · rw [if_neg c38] at H
                                                      exact absurd H (by simp)
                                                  · rw [if_neg c37] at H
                                                    have c37b0 : decide (x10_13 ≤ x17_6) = false := decide_eq_false c37
                                                    clear c37
                                                    by_cases c43 : 0 ≤ x17_6
                                                    · rw [if_pos c43] at H
                                                      have c43b0 : decide (0 ≤ x17_6) = true := decide_eq_true c43
                                                      clear c43
                                                      by_cases c44 : x17_6 < (t290.length : Int)
                                                      · rw [if_pos c44] at H
                                                        have c44b0 : decide (x17_6 < (t290.length : Int)) = true := decide_eq_true c44
                                                        clear c44
                                                        by_cases c45 : ((rd_T31 t290 x17_6).f2) = (wrap64 (((rd_T31 t284 x17_6).f2) + 0))
                                                        · rw [if_pos c45] at H
                                                          have c45b0 : (((rd_T31 t290 x17_6).f2) == (wrap64 (((rd_T31 t284 x17_6).f2) + 0))) = true := beq_iff_eq.mpr c45
                                                          have c45b1 : (((rd_T31 t290 x17_6).f2) != (wrap64 (((rd_T31 t284 x17_6).f2) + 0))) = false := bne_eq_false_iff_eq.mpr c45; have c45b7 := c45b0; rw [Int.add_zero] at c45b7; have c45b8 := c45b1; rw [Int.add_zero] at c45b8
                                                          clear c45
                                                          have H' := Aside0.mk H
                                                          clear H
                                                          obtain ⟨Ao46, co46, eo46⟩ := Kd.R_slice HO_14.out
                                                          subst eo46
                                                          have p298 : 0 ≤ (x17_6 : Int) := of_decide_eq_true (by first | (with_reducible assumption) | assumption)
                                                          have q298 : x17_6 < (t290.length : Int) := of_decide_eq_true (by first | (with_reducible assumption) | assumption)
                                                          obtain ⟨ad298, e298, hx298_0, hx298_1, hx298_2⟩ := at_T31 (Kd.R_reads' HO_14.out).2.2 x17_6 p298 q298
                                                          cases e298
                                                          replace p298 := eq_true p298
                                                          replace q298 := eq_true q298
                                                          have p299 : 0 ≤ (x17_6 : Int) := of_decide_eq_true (by first | (with_reducible assumption) | assumption)
                                                          have q299 : x17_6 < (t284.length : Int) := of_decide_eq_true (by first | (with_reducible assumption) | assumption)
                                                          obtain ⟨ad299, e299, hx299_0, hx299_1, hx299_2⟩ := at_T31 (Kd.R_reads' HO_7.out).2.2 x17_6 p299 q299
                                                          cases e299
                                                          replace p299 := eq_true p299
                                                          replace q299 := eq_true q299
                                                          go_wp2
                                                          repeat (go_quiet (fail); try go_wp2)
                                                          go_roundg k6
                                                          case measure => have := HJ6.out; have := HJ13.out; have := HJ16.out; have := HK4.out; have := HJ29.out; have := HK6.out; omega
                                                          case rel => exact ⟨(wrap64 (x17_6 + 1)), (by first | rfl | (simp; done) | (simp [*]; done)), H', ⟨by have := HJ6.out; have := HJ13.out; have := HJ16.out; have := HK4.out; have := HJ29.out; have := HK6.out; omega⟩, ⟨by (with_reducible repeat (first | apply Kd.R_alloc | apply Kd.R_drewN | apply Kd.R_drew)); exact HO_7.out⟩, ⟨by (with_reducible repeat (first | apply Kd.R_alloc | apply Kd.R_drewN | apply Kd.R_drew)); exact HO_14.out⟩, ⟨by repeat (first | (with_reducible first | exact HB.out | apply below_alloc | apply pw_below_drewN | apply below_drew1) | exact HB.out)⟩⟩
                                                        · rw [if_neg c45] at H
                                                          have c45b0 : (((rd_T31 t290 x17_6).f2) == (wrap64 (((rd_T31 t284 x17_6).f2) + 0))) = false := beq_eq_false_iff_ne.mpr c45
                                                          have c45b1 : (((rd_T31 t290 x17_6).f2) != (wrap64 (((rd_T31 t284 x17_6).f2) + 0))) = true := bne_iff_ne.mpr c45; have c45b7 := c45b0; rw [Int.add_zero] at c45b7; have c45b8 := c45b1; rw [Int.add_zero] at c45b8
                                                          obtain rfl := Option.some.inj H
                                                          obtain ⟨Ao47, co47, eo47⟩ := Kd.R_slice HO_14.out
                                                          subst eo47
                                                          have p298 : 0 ≤ (x17_6 : Int) := of_decide_eq_true (by first | (with_reducible assumption) | assumption)
                                                          have q298 : x17_6 < (t290.length : Int) := of_decide_eq_true (by first | (with_reducible assumption) | assumption)
                                                          obtain ⟨ad298, e298, hx298_0, hx298_1, hx298_2⟩ := at_T31 (Kd.R_reads' HO_14.out).2.2 x17_6 p298 q298
                                                          cases e298
                                                          replace p298 := eq_true p298
                                                          replace q298 := eq_true q298
                                                          have p299 : 0 ≤ (x17_6 : Int) := of_decide_eq_true (by first | (with_reducible assumption) | assumption)
                                                          have q299 : x17_6 < (t284.length : Int) := of_decide_eq_true (by first | (with_reducible assumption) | assumption)
                                                          obtain ⟨ad299, e299, hx299_0, hx299_1, hx299_2⟩ := at_T31 (Kd.R_reads' HO_7.out).2.2 x17_6 p299 q299
                                                          cases e299
                                                          replace p299 := eq_true p299
                                                          replace q299 := eq_true q299
                                                          go_wp2
                                                          repeat (go_quiet (fail); try go_wp2)
                                                          go_ret
                                                          exact ⟨by first | rfl | (simp [errW_none, errW_some] <;> rfl) | (simp [*, errW_none, errW_some] <;> rfl), by repeat (first | (with_reducible first | exact HB.out | apply below_alloc | apply pw_below_drewN | apply below_drew1) | exact HB.out)⟩
                                                      · rw [if_neg c44] at H
                                                        exact absurd H (by simp)
                                                    · rw [if_neg c43] at H
                                                      exact absurd H (by simp)
                                                · rw [if_neg c36] at H
                                                  have c36b0 : decide (x17_6 < (t284.length : Int)) = false := decide_eq_false c36
                                                  clear c36
                                                  obtain rfl := Option.some.inj H
                                                  go_wp2
                                                  repeat (go_quiet (fail); try go_wp2)
                                                  go_ret
                                                  exact ⟨by first | rfl | (simp [errW_none, errW_some] <;> rfl) | (simp [*, errW_none, errW_some] <;> rfl), by repeat (first | (with_reducible first | exact HB.out | apply below_alloc | apply pw_below_drewN | apply below_drew1) | exact HB.out)⟩
                                  · rw [if_neg c26] at H
                                    exact absurd H (by simp)
                                · rw [if_neg c25] at H
                                  exact absurd H (by simp)
                              · rw [if_neg c24] at H
                                exact absurd H (by simp)
                      · rw [if_neg c21] at H
                        exact absurd H (by simp)
                    · rw [if_neg c20] at H
                      exact absurd H (by simp)
  · replace c5 := Bool.eq_false_iff.mpr c5
    subst c5
    have H1 : (some false) = some r := by rw [if_neg (show ¬ (false = true) by decide)] at H; exact H
    clear H
    have H := H1
    clear H1
    obtain rfl := Option.some.inj H
    go_enter Tryd.func7, Tryd.ntmps7
    go_wp2_with (first | (go_at_call 11; (with_reducible refine (whittlelaw4_able.calls k  false _ (LaidG.below HGL.out (by repeat (first | (with_reducible first | exact HB.out | apply below_alloc | apply pw_below_drewN | apply below_drew1) | exact HB.out))) A4.out).mono ?_); rintro e w48 ⟨rfl, hb⟩; have n0_ := Aside0.mk (below_step (by repeat (first | (with_reducible first | exact HB.out | apply below_alloc | apply pw_below_drewN | apply below_drew1) | exact HB.out)) hb); clear HB; have HB := n0_; clear n0_; (try clear hb); (try clear hb2); (try clear hk); (try clear hi)))
    repeat (go_quiet (first | (go_at_call 11; (with_reducible refine (whittlelaw4_able.calls k  false _ (LaidG.below HGL.out (by repeat (first | (with_reducible first | exact HB.out | apply below_alloc | apply pw_below_drewN | apply below_drew1) | exact HB.out))) A4.out).mono ?_); rintro e w48 ⟨rfl, hb⟩; have n0_ := Aside0.mk (below_step (by repeat (first | (with_reducible first | exact HB.out | apply below_alloc | apply pw_below_drewN | apply below_drew1) | exact HB.out)) hb); clear HB; have HB := n0_; clear n0_; (try clear hb); (try clear hb2); (try clear hk); (try clear hi))); try go_wp2_with (first | (go_at_call 11; (with_reducible refine (whittlelaw4_able.calls k  false _ (LaidG.below HGL.out (by repeat (first | (with_reducible first | exact HB.out | apply below_alloc | apply pw_below_drewN | apply below_drew1) | exact HB.out))) A4.out).mono ?_); rintro e w48 ⟨rfl, hb⟩; have n0_ := Aside0.mk (below_step (by repeat (first | (with_reducible first | exact HB.out | apply below_alloc | apply pw_below_drewN | apply below_drew1) | exact HB.out)) hb); clear HB; have HB := n0_; clear n0_; (try clear hb); (try clear hb2); (try clear hk); (try clear hi))))
    go_ret
    exact ⟨by first | rfl | (simp [errW_none, errW_some] <;> rfl) | (simp [*, errW_none, errW_some] <;> rfl), by repeat (first | (with_reducible first | exact HB.out | apply below_alloc | apply pw_below_drewN | apply below_drew1) | exact HB.out)⟩

end Go.Proofs.YtceldhkfidmfkaaDoor.L
