-- by wprint.py, out of the translation
import Derived.Test.YtceldhkfidmfkaaDoorLx0
import Derived.Test.YtceldhkfidmfkaaDoorLx4
import Derived.Test.YtceldhkfidmfkaaDoorLx13
import Derived.Test.YtceldhkfidmfkaaDoorLx15
import Derived.Test.YtceldhkfidmfkaaDoorLx21
import Derived.Test.YtceldhkfidmfkaaDoorLaid
namespace Go.Proofs.YtceldhkfidmfkaaDoor.L
open Go.RowKit Go.Proofs.YtceldhkfidmfkaaDoorW.PrintWords Go.Proofs.YtceldhkfidmfkaaDoorW.PrintLast Go.Proofs.YtceldhkfidmfkaaDoorW.PrintMore
attribute [local go_sem] max2_int min2_int max_two min_two max_three min_three max_four min_four   -- for this text's walks alone
set_option linter.unusedVariables false
set_option linter.unusedSimpArgs false

/-! ### whittlelaw4_LexCovers: function 8 -/
mutual
def whittlelaw4_LexCovers.l0 : Nat → ByteArray → List (S31) → Int → Int → Option (Bool)
  | 0, _, _, _, _ => none
  | k + 1, x0, x3, x6, x7 => if x7 < (x3.length : Int) then (if 0 ≤ x7 then (if ((rd_T31 x3 x7).f2) < x6 then (whittlelaw4_LexCovers.j1 k x0 x3 x6 x7 true ((rd_T31 x3 x7).f0) ((rd_T31 x3 x7).f1) ((rd_T31 x3 x7).f2)) else (if ((rd_T31 x3 x7).f2) ≥ (x0.size : Int) then (whittlelaw4_LexCovers.j1 k x0 x3 x6 x7 true ((rd_T31 x3 x7).f0) ((rd_T31 x3 x7).f1) ((rd_T31 x3 x7).f2)) else (if ((rd_T31 x3 x7).f0) < 1 then (whittlelaw4_LexCovers.j1 k x0 x3 x6 x7 true ((rd_T31 x3 x7).f0) ((rd_T31 x3 x7).f1) ((rd_T31 x3 x7).f2)) else (whittlelaw4_LexCovers.j1 k x0 x3 x6 x7 (decide (((rd_T31 x3 x7).f0) > 5)) ((rd_T31 x3 x7).f0) ((rd_T31 x3 x7).f1) ((rd_T31 x3 x7).f2))))) else (none)) else (whittlelaw4_LexCovers.l3 k x0 x6)
def whittlelaw4_LexCovers.j1 : Nat → ByteArray → List (S31) → Int → Int → Bool → Int → ByteArray → Int → Option (Bool)
  | 0, _, _, _, _, _, _, _, _ => none
  | k + 1, x0, x3, x6, x7, x80, x314000, x314001, x314002 => if x80 = true then (some false) else (whittlelaw4_LexCovers.l1 k x0 x3 x7 x6 x314000 x314001 x314002)
def whittlelaw4_LexCovers.l1 : Nat → ByteArray → List (S31) → Int → Int → Int → ByteArray → Int → Option (Bool)
  | 0, _, _, _, _, _, _, _ => none
  | k + 1, x0, x3, x7, x9, x314000, x314001, x314002 => if x9 < x314002 then (if 0 ≤ x9 then (if x9 < (x0.size : Int) then (if (bt x0 x9) = 32 then (whittlelaw4_LexCovers.l1 k x0 x3 x7 (wrap64 (x9 + 1)) x314000 x314001 x314002) else (some false)) else (none)) else (none)) else (if x314000 = 2 then (whittlelaw4_LexCovers.l2 k x0 x3 x7 2 0 x314000 x314001 x314002) else (if (wrap64 ((x0.size : Int) - x314002)) < (x314001.size : Int) then (some false) else (if (x314001.size : Int) = 0 then (some false) else (if 0 ≤ x314002 then (if x314002 ≤ (wrap64 (x314002 + (x314001.size : Int))) then (if (wrap64 (x314002 + (x314001.size : Int))) ≤ (x0.size : Int) then (if (x0.extract (x314002 : Int).toNat ((wrap64 (x314002 + (x314001.size : Int))) : Int).toNat).toList = x314001.toList then (whittlelaw4_LexCovers.l0 k x0 x3 (wrap64 (x314002 + (x314001.size : Int))) (wrap64 (x7 + 1))) else (some false)) else (none)) else (none)) else (none)))))
def whittlelaw4_LexCovers.l2 : Nat → ByteArray → List (S31) → Int → Int → Int → Int → ByteArray → Int → Option (Bool)
  | 0, _, _, _, _, _, _, _, _ => none
  | k + 1, x0, x3, x7, x10, x11, x314000, x314001, x314002 => if x11 < (x314001.size : Int) then (if 0 ≤ x11 then (if (bt x314001 x11) = 34 then (whittlelaw4_LexCovers.l2 k x0 x3 x7 (wrap64 ((wrap64 (x10 + 1)) + 1)) (wrap64 (x11 + 1)) x314000 x314001 x314002) else (whittlelaw4_LexCovers.l2 k x0 x3 x7 (wrap64 (x10 + 1)) (wrap64 (x11 + 1)) x314000 x314001 x314002)) else (none)) else (whittlelaw4_LexCovers.l0 k x0 x3 (wrap64 (x314002 + x10)) (wrap64 (x7 + 1)))
def whittlelaw4_LexCovers.l3 : Nat → ByteArray → Int → Option (Bool)
  | 0, _, _ => none
  | k + 1, x0, x12 => if x12 < (x0.size : Int) then (if 0 ≤ x12 then (if (bt x0 x12) = 32 then (whittlelaw4_LexCovers.l3 k x0 (wrap64 (x12 + 1))) else (some false)) else (none)) else (some true)
end
def whittlelaw4_LexCovers.f (k : Nat) (a0 : ByteArray) : Option (Bool) := (whittlelaw4_able.f k).bind fun t305 => (if t305 = true then ((lex_Scan.f k a0).bind fun bt306 => (if bt306.2.1 = 0 then (whittlelaw4_LexCovers.l0 k a0 bt306.1 0 0) else (if bt306.2.2 ≥ 0 then (if bt306.2.2 ≤ (a0.size : Int) then (if bt306.2.1 = 40 then (if bt306.2.2 < (a0.size : Int) then (if bt306.2.2 = 0 then (some true) else ((whittlelaw4_cut.f k a0 bt306.2.2).bind fun t311 => (some t311))) else (some false)) else (some true)) else (some false)) else (some false)))) else (some false))
theorem whittlelaw4_LexCovers.mono_l : ∀ k, (∀ y0 y1 y2 y3, LeO (whittlelaw4_LexCovers.l0 k y0 y1 y2 y3) (whittlelaw4_LexCovers.l0 (k + 1) y0 y1 y2 y3)) ∧ (∀ y0 y1 y2 y3 y4 y5 y6 y7, LeO (whittlelaw4_LexCovers.j1 k y0 y1 y2 y3 y4 y5 y6 y7) (whittlelaw4_LexCovers.j1 (k + 1) y0 y1 y2 y3 y4 y5 y6 y7)) ∧ (∀ y0 y1 y2 y3 y4 y5 y6, LeO (whittlelaw4_LexCovers.l1 k y0 y1 y2 y3 y4 y5 y6) (whittlelaw4_LexCovers.l1 (k + 1) y0 y1 y2 y3 y4 y5 y6)) ∧ (∀ y0 y1 y2 y3 y4 y5 y6 y7, LeO (whittlelaw4_LexCovers.l2 k y0 y1 y2 y3 y4 y5 y6 y7) (whittlelaw4_LexCovers.l2 (k + 1) y0 y1 y2 y3 y4 y5 y6 y7)) ∧ (∀ y0 y1, LeO (whittlelaw4_LexCovers.l3 k y0 y1) (whittlelaw4_LexCovers.l3 (k + 1) y0 y1))
  | 0 => ⟨fun _ _ _ _ r h => by simp [whittlelaw4_LexCovers.l0] at h, fun _ _ _ _ _ _ _ _ r h => by simp [whittlelaw4_LexCovers.j1] at h, fun _ _ _ _ _ _ _ r h => by simp [whittlelaw4_LexCovers.l1] at h, fun _ _ _ _ _ _ _ _ r h => by simp [whittlelaw4_LexCovers.l2] at h, fun _ _ r h => by simp [whittlelaw4_LexCovers.l3] at h⟩
  | k + 1 => by
    obtain ⟨ih0, ih1, ih2, ih3, ih4⟩ := whittlelaw4_LexCovers.mono_l k
    refine ⟨?_, ?_, ?_, ?_, ?_⟩
    · intro y0 y1 y2 y3
      unfold whittlelaw4_LexCovers.l0
      repeat' first
      | (with_reducible exact ih0 _ _ _ _)
      | (with_reducible exact ih1 _ _ _ _ _ _ _ _)
      | (with_reducible exact ih2 _ _ _ _ _ _ _)
      | (with_reducible exact ih3 _ _ _ _ _ _ _ _)
      | (with_reducible exact ih4 _ _)
      | (with_reducible exact lex_Scan.mono _ _)
      | (with_reducible exact whittlelaw4_able.mono _)
      | (with_reducible exact whittlelaw4_cut.mono _ _ _)
      | (with_reducible exact LeO.refl _)
      | (with_reducible exact LeO.none _)
      | (with_reducible refine LeO.ite ?_ ?_)
      | (with_reducible refine LeO.bind ?_ (fun _ => ?_))
      | exact ih0 _ _ _ _
      | exact ih1 _ _ _ _ _ _ _ _
      | exact ih2 _ _ _ _ _ _ _
      | exact ih3 _ _ _ _ _ _ _ _
      | exact ih4 _ _
      | exact lex_Scan.mono _ _
      | exact whittlelaw4_able.mono _
      | exact whittlelaw4_cut.mono _ _ _
      | exact LeO.none _
      | refine LeO.ite ?_ ?_
      | refine LeO.bind ?_ (fun _ => ?_)
    · intro y0 y1 y2 y3 y4 y5 y6 y7
      unfold whittlelaw4_LexCovers.j1
      repeat' first
      | (with_reducible exact ih0 _ _ _ _)
      | (with_reducible exact ih1 _ _ _ _ _ _ _ _)
      | (with_reducible exact ih2 _ _ _ _ _ _ _)
      | (with_reducible exact ih3 _ _ _ _ _ _ _ _)
      | (with_reducible exact ih4 _ _)
      | (with_reducible exact lex_Scan.mono _ _)
      | (with_reducible exact whittlelaw4_able.mono _)
      | (with_reducible exact whittlelaw4_cut.mono _ _ _)
      | (with_reducible exact LeO.refl _)
      | (with_reducible exact LeO.none _)
      | (with_reducible refine LeO.ite ?_ ?_)
      | (with_reducible refine LeO.bind ?_ (fun _ => ?_))
      | exact ih0 _ _ _ _
      | exact ih1 _ _ _ _ _ _ _ _
      | exact ih2 _ _ _ _ _ _ _
      | exact ih3 _ _ _ _ _ _ _ _
      | exact ih4 _ _
      | exact lex_Scan.mono _ _
      | exact whittlelaw4_able.mono _
      | exact whittlelaw4_cut.mono _ _ _
      | exact LeO.none _
      | refine LeO.ite ?_ ?_
      | refine LeO.bind ?_ (fun _ => ?_)
    · intro y0 y1 y2 y3 y4 y5 y6
      unfold whittlelaw4_LexCovers.l1
      repeat' first
      | (with_reducible exact ih0 _ _ _ _)
      | (with_reducible exact ih1 _ _ _ _ _ _ _ _)
      | (with_reducible exact ih2 _ _ _ _ _ _ _)
      | (with_reducible exact ih3 _ _ _ _ _ _ _ _)
      | (with_reducible exact ih4 _ _)
      | (with_reducible exact lex_Scan.mono _ _)
      | (with_reducible exact whittlelaw4_able.mono _)
      | (with_reducible exact whittlelaw4_cut.mono _ _ _)
      | (with_reducible exact LeO.refl _)
      | (with_reducible exact LeO.none _)
      | (with_reducible refine LeO.ite ?_ ?_)
      | (with_reducible refine LeO.bind ?_ (fun _ => ?_))
      | exact ih0 _ _ _ _
      | exact ih1 _ _ _ _ _ _ _ _
      | exact ih2 _ _ _ _ _ _ _
      | exact ih3 _ _ _ _ _ _ _ _
      | exact ih4 _ _
      | exact lex_Scan.mono _ _
      | exact whittlelaw4_able.mono _
      | exact whittlelaw4_cut.mono _ _ _
      | exact LeO.none _
      | refine LeO.ite ?_ ?_
      | refine LeO.bind ?_ (fun _ => ?_)
    · intro y0 y1 y2 y3 y4 y5 y6 y7
      unfold whittlelaw4_LexCovers.l2
      repeat' first
      | (with_reducible exact ih0 _ _ _ _)
      | (with_reducible exact ih1 _ _ _ _ _ _ _ _)
      | (with_reducible exact ih2 _ _ _ _ _ _ _)
      | (with_reducible exact ih3 _ _ _ _ _ _ _ _)
      | (with_reducible exact ih4 _ _)
      | (with_reducible exact lex_Scan.mono _ _)
      | (with_reducible exact whittlelaw4_able.mono _)
      | (with_reducible exact whittlelaw4_cut.mono _ _ _)
      | (with_reducible exact LeO.refl _)
      | (with_reducible exact LeO.none _)
      | (with_reducible refine LeO.ite ?_ ?_)
      | (with_reducible refine LeO.bind ?_ (fun _ => ?_))
      | exact ih0 _ _ _ _
      | exact ih1 _ _ _ _ _ _ _ _
      | exact ih2 _ _ _ _ _ _ _
      | exact ih3 _ _ _ _ _ _ _ _
      | exact ih4 _ _
      | exact lex_Scan.mono _ _
      | exact whittlelaw4_able.mono _
      | exact whittlelaw4_cut.mono _ _ _
      | exact LeO.none _
      | refine LeO.ite ?_ ?_
      | refine LeO.bind ?_ (fun _ => ?_)
    · intro y0 y1
      unfold whittlelaw4_LexCovers.l3
      repeat' first
      | (with_reducible exact ih0 _ _ _ _)
      | (with_reducible exact ih1 _ _ _ _ _ _ _ _)
      | (with_reducible exact ih2 _ _ _ _ _ _ _)
      | (with_reducible exact ih3 _ _ _ _ _ _ _ _)
      | (with_reducible exact ih4 _ _)
      | (with_reducible exact lex_Scan.mono _ _)
      | (with_reducible exact whittlelaw4_able.mono _)
      | (with_reducible exact whittlelaw4_cut.mono _ _ _)
      | (with_reducible exact LeO.refl _)
      | (with_reducible exact LeO.none _)
      | (with_reducible refine LeO.ite ?_ ?_)
      | (with_reducible refine LeO.bind ?_ (fun _ => ?_))
      | exact ih0 _ _ _ _
      | exact ih1 _ _ _ _ _ _ _ _
      | exact ih2 _ _ _ _ _ _ _
      | exact ih3 _ _ _ _ _ _ _ _
      | exact ih4 _ _
      | exact lex_Scan.mono _ _
      | exact whittlelaw4_able.mono _
      | exact whittlelaw4_cut.mono _ _ _
      | exact LeO.none _
      | refine LeO.ite ?_ ?_
      | refine LeO.bind ?_ (fun _ => ?_)
theorem whittlelaw4_LexCovers.mono : ∀ a0 k, LeO (whittlelaw4_LexCovers.f k a0) (whittlelaw4_LexCovers.f (k + 1) a0) := by
  intro a0 k
  obtain ⟨ih0, ih1, ih2, ih3, ih4⟩ := whittlelaw4_LexCovers.mono_l k
  unfold whittlelaw4_LexCovers.f
  repeat' first
      | (with_reducible exact ih0 _ _ _ _)
      | (with_reducible exact ih1 _ _ _ _ _ _ _ _)
      | (with_reducible exact ih2 _ _ _ _ _ _ _)
      | (with_reducible exact ih3 _ _ _ _ _ _ _ _)
      | (with_reducible exact ih4 _ _)
      | (with_reducible exact lex_Scan.mono _ _)
      | (with_reducible exact whittlelaw4_able.mono _)
      | (with_reducible exact whittlelaw4_cut.mono _ _ _)
      | (with_reducible exact LeO.refl _)
      | (with_reducible exact LeO.none _)
      | (with_reducible refine LeO.ite ?_ ?_)
      | (with_reducible refine LeO.bind ?_ (fun _ => ?_))
      | exact ih0 _ _ _ _
      | exact ih1 _ _ _ _ _ _ _ _
      | exact ih2 _ _ _ _ _ _ _
      | exact ih3 _ _ _ _ _ _ _ _
      | exact ih4 _ _
      | exact lex_Scan.mono _ _
      | exact whittlelaw4_able.mono _
      | exact whittlelaw4_cut.mono _ _ _
      | exact LeO.none _
      | refine LeO.ite ?_ ?_
      | refine LeO.bind ?_ (fun _ => ?_)
set_option maxHeartbeats 8000000 in
set_option maxRecDepth 100000 in
theorem whittlelaw4_LexCovers.calls (k : Nat) (a0 : ByteArray) (r : Bool) (w : World) (hG : LaidG w) (h : whittlelaw4_LexCovers.f k a0 = some r) :
    Calls Tryd.prog 8 #[.string a0] w fun e w' => e = .returned (.bool r) ∧ Below w.heap.size w w' := by
  have HGL := Aside0.mk hG
  clear hG
  have hu31 := Tryd.underlying31
  have HB := Aside0.mk (Below.refl w.heap.size w)
  have H : ((whittlelaw4_able.f k).bind fun t305 => (if t305 = true then ((lex_Scan.f k a0).bind fun bt306 => (if bt306.2.1 = 0 then (whittlelaw4_LexCovers.l0 k a0 bt306.1 0 0) else (if bt306.2.2 ≥ 0 then (if bt306.2.2 ≤ (a0.size : Int) then (if bt306.2.1 = 40 then (if bt306.2.2 < (a0.size : Int) then (if bt306.2.2 = 0 then (some true) else ((whittlelaw4_cut.f k a0 bt306.2.2).bind fun t311 => (some t311))) else (some false)) else (some true)) else (some false)) else (some false)))) else (some false))) = some r := h
  clear h
  replace H := Option.bind_eq_some_iff.mp H
  obtain ⟨t305, A20, H⟩ := H
  replace H : (if t305 = true then ((lex_Scan.f k a0).bind fun bt306 => (if bt306.2.1 = 0 then (whittlelaw4_LexCovers.l0 k a0 bt306.1 0 0) else (if bt306.2.2 ≥ 0 then (if bt306.2.2 ≤ (a0.size : Int) then (if bt306.2.1 = 40 then (if bt306.2.2 < (a0.size : Int) then (if bt306.2.2 = 0 then (some true) else ((whittlelaw4_cut.f k a0 bt306.2.2).bind fun t311 => (some t311))) else (some false)) else (some true)) else (some false)) else (some false)))) else (some false)) = some r := H
  have A2 := Aside0.mk A20
  clear A20
  by_cases c3 : t305 = true
  · subst c3
    have H1 : ((lex_Scan.f k a0).bind fun bt306 => (if bt306.2.1 = 0 then (whittlelaw4_LexCovers.l0 k a0 bt306.1 0 0) else (if bt306.2.2 ≥ 0 then (if bt306.2.2 ≤ (a0.size : Int) then (if bt306.2.1 = 40 then (if bt306.2.2 < (a0.size : Int) then (if bt306.2.2 = 0 then (some true) else ((whittlelaw4_cut.f k a0 bt306.2.2).bind fun t311 => (some t311))) else (some false)) else (some true)) else (some false)) else (some false)))) = some r := by rw [if_pos rfl] at H; exact H
    clear H
    have H := H1
    clear H1
    replace H := Option.bind_eq_some_iff.mp H
    obtain ⟨⟨t306, t307, t308⟩, A40, H⟩ := H
    replace H : (if t307 = 0 then (whittlelaw4_LexCovers.l0 k a0 t306 0 0) else (if t308 ≥ 0 then (if t308 ≤ (a0.size : Int) then (if t307 = 40 then (if t308 < (a0.size : Int) then (if t308 = 0 then (some true) else ((whittlelaw4_cut.f k a0 t308).bind fun t311 => (some t311))) else (some false)) else (some true)) else (some false)) else (some false))) = some r := H
    have A4 := Aside0.mk A40
    clear A40
    by_cases c5 : t307 = 0
    · rw [if_pos c5] at H
      have c5b0 : (t307 == 0) = true := beq_iff_eq.mpr c5
      have c5b1 : (t307 != 0) = false := bne_eq_false_iff_eq.mpr c5
      clear c5
      have H' := Aside0.mk H
      clear H
      go_enter Tryd.func8, Tryd.ntmps8
      go_wp2_with (first | (go_at_call 11; (with_reducible refine (whittlelaw4_able.calls k  true _ (LaidG.below HGL.out (by repeat (first | (with_reducible first | exact HB.out | apply below_alloc | apply pw_below_drewN | apply below_drew1) | exact HB.out))) A2.out).mono ?_); rintro e w6 ⟨rfl, hb⟩; have n0_ := Aside0.mk (below_step (by repeat (first | (with_reducible first | exact HB.out | apply below_alloc | apply pw_below_drewN | apply below_drew1) | exact HB.out)) hb); clear HB; have HB := n0_; clear n0_; (try clear hb); (try clear hb2); (try clear hk); (try clear hi)) | (go_at_call 9; (with_reducible refine (lex_Scan.calls k a0 t306 t307 t308 _ (LaidG.below HGL.out (by repeat (first | (with_reducible first | exact HB.out | apply below_alloc | apply pw_below_drewN | apply below_drew1) | exact HB.out))) A4.out).mono ?_); rintro e w7 ⟨v309, rfl, ho0, hb⟩; have n0_ := Aside0.mk (Kd.R_lower ho0 (below_size (by repeat (first | (with_reducible first | exact HB.out | apply below_alloc | apply pw_below_drewN | apply below_drew1) | exact HB.out)))); have n1_ := Aside0.mk (below_step (by repeat (first | (with_reducible first | exact HB.out | apply below_alloc | apply pw_below_drewN | apply below_drew1) | exact HB.out)) hb); clear HB; have HO310 := n0_; have HB := n1_; clear n0_ n1_; (try clear hb); (try clear hb2); (try clear hk); (try clear hi); (try clear ho0)))
      repeat (go_quiet (first | (go_at_call 11; (with_reducible refine (whittlelaw4_able.calls k  true _ (LaidG.below HGL.out (by repeat (first | (with_reducible first | exact HB.out | apply below_alloc | apply pw_below_drewN | apply below_drew1) | exact HB.out))) A2.out).mono ?_); rintro e w6 ⟨rfl, hb⟩; have n0_ := Aside0.mk (below_step (by repeat (first | (with_reducible first | exact HB.out | apply below_alloc | apply pw_below_drewN | apply below_drew1) | exact HB.out)) hb); clear HB; have HB := n0_; clear n0_; (try clear hb); (try clear hb2); (try clear hk); (try clear hi)) | (go_at_call 9; (with_reducible refine (lex_Scan.calls k a0 t306 t307 t308 _ (LaidG.below HGL.out (by repeat (first | (with_reducible first | exact HB.out | apply below_alloc | apply pw_below_drewN | apply below_drew1) | exact HB.out))) A4.out).mono ?_); rintro e w7 ⟨v309, rfl, ho0, hb⟩; have n0_ := Aside0.mk (Kd.R_lower ho0 (below_size (by repeat (first | (with_reducible first | exact HB.out | apply below_alloc | apply pw_below_drewN | apply below_drew1) | exact HB.out)))); have n1_ := Aside0.mk (below_step (by repeat (first | (with_reducible first | exact HB.out | apply below_alloc | apply pw_below_drewN | apply below_drew1) | exact HB.out)) hb); clear HB; have HO310 := n0_; have HB := n1_; clear n0_ n1_; (try clear hb); (try clear hb2); (try clear hk); (try clear hi); (try clear ho0))); try go_wp2_with (first | (go_at_call 11; (with_reducible refine (whittlelaw4_able.calls k  true _ (LaidG.below HGL.out (by repeat (first | (with_reducible first | exact HB.out | apply below_alloc | apply pw_below_drewN | apply below_drew1) | exact HB.out))) A2.out).mono ?_); rintro e w6 ⟨rfl, hb⟩; have n0_ := Aside0.mk (below_step (by repeat (first | (with_reducible first | exact HB.out | apply below_alloc | apply pw_below_drewN | apply below_drew1) | exact HB.out)) hb); clear HB; have HB := n0_; clear n0_; (try clear hb); (try clear hb2); (try clear hk); (try clear hi)) | (go_at_call 9; (with_reducible refine (lex_Scan.calls k a0 t306 t307 t308 _ (LaidG.below HGL.out (by repeat (first | (with_reducible first | exact HB.out | apply below_alloc | apply pw_below_drewN | apply below_drew1) | exact HB.out))) A4.out).mono ?_); rintro e w7 ⟨v309, rfl, ho0, hb⟩; have n0_ := Aside0.mk (Kd.R_lower ho0 (below_size (by repeat (first | (with_reducible first | exact HB.out | apply below_alloc | apply pw_below_drewN | apply below_drew1) | exact HB.out)))); have n1_ := Aside0.mk (below_step (by repeat (first | (with_reducible first | exact HB.out | apply below_alloc | apply pw_below_drewN | apply below_drew1) | exact HB.out)) hb); clear HB; have HO310 := n0_; have HB := n1_; clear n0_ n1_; (try clear hb); (try clear hb2); (try clear hk); (try clear hi); (try clear ho0))))
      go_loopg [6, 7] k (fun kq v6 v7 w' => ∃ (x6_1 : Int) (x7_1 : Int), v6 = .int .i64 x6_1 ∧ v7 = .int .i64 x7_1 ∧ Aside0 (whittlelaw4_LexCovers.l0 kq a0 t306 x6_1 x7_1 = some r) ∧ Aside0 (kq ≤ k) ∧ Aside0 (Kd.R k31 31 w' w.heap.size (fun _ => True) v309 t306) ∧ Aside0 (Below w.heap.size w w'))
      case atStart => exact ⟨(0), (0), (by first | rfl | (simp; done) | (simp [*]; done)), (by first | rfl | (simp; done) | (simp [*]; done)), H', ⟨Nat.le_refl _⟩, ⟨by (with_reducible repeat (first | apply Kd.R_alloc | apply Kd.R_drewN | apply Kd.R_drew)); exact HO310.out⟩, ⟨by repeat (first | (with_reducible first | exact HB.out | apply below_alloc | apply pw_below_drewN | apply below_drew1) | exact HB.out)⟩⟩
      case round =>
        clear H'
        try clear p2
        try clear c3
        try clear c5
        try clear c5b0
        try clear c5b1
        obtain ⟨x6_1, x7_1, rfl, rfl, HA, HK1, HO_3, HB⟩ := hrel
        cases gk with
        | zero => exact absurd HA.out (by simp [whittlelaw4_LexCovers.l0])
        | succ k1 =>
          have H := HA.out
          clear HA
          simp only [whittlelaw4_LexCovers.l0] at H
          by_cases c8 : x7_1 < (t306.length : Int)
          · rw [if_pos c8] at H
            have c8b0 : decide (x7_1 < (t306.length : Int)) = true := decide_eq_true c8
            clear c8
            by_cases c9 : 0 ≤ x7_1
            · rw [if_pos c9] at H
              have c9b0 : decide (0 ≤ x7_1) = true := decide_eq_true c9
              clear c9
              have HC10 := Aside0.mk H
              clear H
              obtain ⟨Ao11, co11, eo11⟩ := Kd.R_slice HO_3.out
              subst eo11
              have p312 : 0 ≤ (x7_1 : Int) := of_decide_eq_true (by first | (with_reducible assumption) | assumption)
              have q312 : x7_1 < (t306.length : Int) := of_decide_eq_true (by first | (with_reducible assumption) | assumption)
              obtain ⟨ad312, e312, hx312_0, hx312_1, hx312_2⟩ := at_T31 (Kd.R_reads' HO_3.out).2.2 x7_1 p312 q312
              cases e312
              replace p312 := eq_true p312
              replace q312 := eq_true q312
              go_upto_region 11 with (first | ((with_reducible refine gate_dst (N := 8) rfl ?_); (try (refine gate_guard (by rfl) ?_; dsimp only)); refine box_event ?hg (N := 8) ?hd (cs := #[.int .i64 0, .string (⟨#[]⟩ : ByteArray), .int .i64 0]) (t := 31) ?hr ?_; (case hd => rfl); (case hg => rfl); (case hr => first | (go_simp; done) | (go_simp; rfl)); intro gb313 hg w12 hbox hb; have n0_ := Aside0.mk (Kd.R_below (Kd.R_elderB (by (with_reducible repeat (first | apply Kd.R_alloc | apply Kd.R_drewN | apply Kd.R_drew)); exact HO_3.out) gb313 (Nat.le_of_eq hg.symm)) hb); have n1_ := Aside0.mk (below_step (by repeat (first | (with_reducible first | exact HB.out | apply below_alloc | apply pw_below_drewN | apply below_drew1) | exact HB.out)) hb); have n2_ := Aside0.mk (hbox); have n3_ := Aside0.mk ((by rw [hg]; exact (below_size (by repeat (first | (with_reducible first | exact HB.out | apply below_alloc | apply pw_below_drewN | apply below_drew1) | exact HB.out))) : w.heap.size ≤ gb313)); have n4_ := Aside0.mk ((by rw [hg]; exact (below_size (by repeat (first | (with_reducible first | exact HB.out | apply below_alloc | apply pw_below_drewN | apply below_drew1) | exact HB.out))) : w.heap.size ≤ gb313)); clear HO_3; clear HB; have HO_3 := n0_; have HB := n1_; have BK313 := n2_; have GW313 := n3_; have GE313 := n4_; clear n0_ n1_ n2_ n3_ n4_; clear hb hbox hg; have hcz13_0 : w12.cell? ⟨gb313, 0, none⟩ = some (.int .i64 0) := (blk_cell BK313.out 0).trans rfl; have hcz13_1 : w12.cell? ⟨gb313, 1, none⟩ = some (.string (⟨#[]⟩ : ByteArray)) := (blk_cell BK313.out 1).trans rfl; have hcz13_2 : w12.cell? ⟨gb313, 2, none⟩ = some (.int .i64 0) := (blk_cell BK313.out 2).trans rfl; have hfz13_0 := blk_frozen BK313.out 0; have hfz13_1 := blk_frozen BK313.out 1; have hfz13_2 := blk_frozen BK313.out 2))
              repeat (go_quiet (first | ((with_reducible refine gate_dst (N := 8) rfl ?_); (try (refine gate_guard (by rfl) ?_; dsimp only)); refine box_event ?hg (N := 8) ?hd (cs := #[.int .i64 0, .string (⟨#[]⟩ : ByteArray), .int .i64 0]) (t := 31) ?hr ?_; (case hd => rfl); (case hg => rfl); (case hr => first | (go_simp; done) | (go_simp; rfl)); intro gb313 hg w12 hbox hb; have n0_ := Aside0.mk (Kd.R_below (Kd.R_elderB (by (with_reducible repeat (first | apply Kd.R_alloc | apply Kd.R_drewN | apply Kd.R_drew)); exact HO_3.out) gb313 (Nat.le_of_eq hg.symm)) hb); have n1_ := Aside0.mk (below_step (by repeat (first | (with_reducible first | exact HB.out | apply below_alloc | apply pw_below_drewN | apply below_drew1) | exact HB.out)) hb); have n2_ := Aside0.mk (hbox); have n3_ := Aside0.mk ((by rw [hg]; exact (below_size (by repeat (first | (with_reducible first | exact HB.out | apply below_alloc | apply pw_below_drewN | apply below_drew1) | exact HB.out))) : w.heap.size ≤ gb313)); have n4_ := Aside0.mk ((by rw [hg]; exact (below_size (by repeat (first | (with_reducible first | exact HB.out | apply below_alloc | apply pw_below_drewN | apply below_drew1) | exact HB.out))) : w.heap.size ≤ gb313)); clear HO_3; clear HB; have HO_3 := n0_; have HB := n1_; have BK313 := n2_; have GW313 := n3_; have GE313 := n4_; clear n0_ n1_ n2_ n3_ n4_; clear hb hbox hg; have hcz13_0 : w12.cell? ⟨gb313, 0, none⟩ = some (.int .i64 0) := (blk_cell BK313.out 0).trans rfl; have hcz13_1 : w12.cell? ⟨gb313, 1, none⟩ = some (.string (⟨#[]⟩ : ByteArray)) := (blk_cell BK313.out 1).trans rfl; have hcz13_2 : w12.cell? ⟨gb313, 2, none⟩ = some (.int .i64 0) := (blk_cell BK313.out 2).trans rfl; have hfz13_0 := blk_frozen BK313.out 0; have hfz13_1 := blk_frozen BK313.out 1; have hfz13_2 := blk_frozen BK313.out 2)); go_upto_region 11 with (first | ((with_reducible refine gate_dst (N := 8) rfl ?_); (try (refine gate_guard (by rfl) ?_; dsimp only)); refine box_event ?hg (N := 8) ?hd (cs := #[.int .i64 0, .string (⟨#[]⟩ : ByteArray), .int .i64 0]) (t := 31) ?hr ?_; (case hd => rfl); (case hg => rfl); (case hr => first | (go_simp; done) | (go_simp; rfl)); intro gb313 hg w12 hbox hb; have n0_ := Aside0.mk (Kd.R_below (Kd.R_elderB (by (with_reducible repeat (first | apply Kd.R_alloc | apply Kd.R_drewN | apply Kd.R_drew)); exact HO_3.out) gb313 (Nat.le_of_eq hg.symm)) hb); have n1_ := Aside0.mk (below_step (by repeat (first | (with_reducible first | exact HB.out | apply below_alloc | apply pw_below_drewN | apply below_drew1) | exact HB.out)) hb); have n2_ := Aside0.mk (hbox); have n3_ := Aside0.mk ((by rw [hg]; exact (below_size (by repeat (first | (with_reducible first | exact HB.out | apply below_alloc | apply pw_below_drewN | apply below_drew1) | exact HB.out))) : w.heap.size ≤ gb313)); have n4_ := Aside0.mk ((by rw [hg]; exact (below_size (by repeat (first | (with_reducible first | exact HB.out | apply below_alloc | apply pw_below_drewN | apply below_drew1) | exact HB.out))) : w.heap.size ≤ gb313)); clear HO_3; clear HB; have HO_3 := n0_; have HB := n1_; have BK313 := n2_; have GW313 := n3_; have GE313 := n4_; clear n0_ n1_ n2_ n3_ n4_; clear hb hbox hg; have hcz13_0 : w12.cell? ⟨gb313, 0, none⟩ = some (.int .i64 0) := (blk_cell BK313.out 0).trans rfl; have hcz13_1 : w12.cell? ⟨gb313, 1, none⟩ = some (.string (⟨#[]⟩ : ByteArray)) := (blk_cell BK313.out 1).trans rfl; have hcz13_2 : w12.cell? ⟨gb313, 2, none⟩ = some (.int .i64 0) := (blk_cell BK313.out 2).trans rfl; have hfz13_0 := blk_frozen BK313.out 0; have hfz13_1 := blk_frozen BK313.out 1; have hfz13_2 := blk_frozen BK313.out 2)))
              (try simp only [Act.put, List.setIfInBounds_toArray, List.set_cons_zero, List.set_cons_succ])
              go_cut [80] (fun v80 wc => ∃ (kq : Nat) (x80_9 : Bool), v80 = .bool x80_9 ∧ Aside0 (whittlelaw4_LexCovers.j1 kq a0 t306 x6_1 x7_1 x80_9 ((rd_T31 t306 x7_1).f0) ((rd_T31 t306 x7_1).f1) ((rd_T31 t306 x7_1).f2) = some r) ∧ Aside0 (kq ≤ k1) ∧ Aside0 (Kd.R k31 31 wc w.heap.size (fun k_ => k_ ≠ gb313) (.slice (some ad312) t306.length co11) t306) ∧ Aside0 (wc.heap[gb313]? = some (.cells #[.int .i64 ((rd_T31 t306 x7_1).f0), .string ((rd_T31 t306 x7_1).f1), .int .i64 ((rd_T31 t306 x7_1).f2)] 31 (0, 0))) ∧ Aside0 (Below w.heap.size w wc))
              case first =>
                have H := HC10.out
                clear HC10
                by_cases c14 : ((rd_T31 t306 x7_1).f2) < x6_1
                · rw [if_pos c14] at H
                  have c14b0 : decide (((rd_T31 t306 x7_1).f2) < x6_1) = true := decide_eq_true c14
                  clear c14
                  (first | rw [c14b0] | (simp only [i64_w, i32_w]; rw [c14b0]) | skip)
                  have H' := Aside0.mk H
                  clear H
                  have hcz15_0 : w12.cell? ⟨gb313, 0, none⟩ = some (.int .i64 0) := (blk_cell BK313.out 0).trans rfl
                  have hcz15_1 : w12.cell? ⟨gb313, 1, none⟩ = some (.string (⟨#[]⟩ : ByteArray)) := (blk_cell BK313.out 1).trans rfl
                  have hcz15_2 : w12.cell? ⟨gb313, 2, none⟩ = some (.int .i64 0) := (blk_cell BK313.out 2).trans rfl
                  have hfz15_0 := blk_frozen BK313.out 0
                  have hfz15_1 := blk_frozen BK313.out 1
                  have hfz15_2 := blk_frozen BK313.out 2
                  go_wp2
                  repeat (go_quiet (fail); try go_wp2)
                  go_meet
                  case rel => exact ⟨_, (true), (by first | rfl | (simp; done) | (simp [*]; done)), H', ⟨by have := HK1.out; first | omega | exact Nat.le_refl _⟩, ⟨by (with_reducible repeat (first | apply Kd.R_alloc | apply Kd.R_drewN | apply Kd.R_drew)); exact Kd.R_mono (Kd.R_far (p := ⟨gb313, 2, none⟩) (Kd.R_far (p := ⟨gb313, 1, none⟩) (Kd.R_far (p := ⟨gb313, 0, none⟩) (Kd.R_mono HO_3.out (fun k_ hk => (⟨hk, hk.2⟩ : _ ∧ k_ ≠ gb313))) (fun _ hk => hk.2) (.int .i64 ((rd_T31 t306 x7_1).f0))) (fun _ hk => hk.2) (.string ((rd_T31 t306 x7_1).f1))) (fun _ hk => hk.2) (.int .i64 ((rd_T31 t306 x7_1).f2))) (fun _ hk => hk.1.2)⟩, ⟨by (with_reducible repeat (first | refine blk_drewN ?_ _ | refine blk_drew ?_ | refine blk_alloc ?_ _)); refine blk_put (cs := #[.int .i64 ((rd_T31 t306 x7_1).f0), .string ((rd_T31 t306 x7_1).f1), .int .i64 0]) ?_ 2 _ rfl; (with_reducible repeat (first | refine blk_drewN ?_ _ | refine blk_drew ?_ | refine blk_alloc ?_ _)); refine blk_put (cs := #[.int .i64 ((rd_T31 t306 x7_1).f0), .string (⟨#[]⟩ : ByteArray), .int .i64 0]) ?_ 1 _ rfl; (with_reducible repeat (first | refine blk_drewN ?_ _ | refine blk_drew ?_ | refine blk_alloc ?_ _)); refine blk_put (cs := #[.int .i64 0, .string (⟨#[]⟩ : ByteArray), .int .i64 0]) ?_ 0 _ rfl; (with_reducible repeat (first | refine blk_drewN ?_ _ | refine blk_drew ?_ | refine blk_alloc ?_ _)); exact BK313.out⟩, ⟨by repeat (first | (with_reducible first | exact HB.out | apply below_alloc | apply pw_below_drewN | apply below_drew1 | refine below_set ?_ GE313.out) | exact HB.out)⟩⟩
                · rw [if_neg c14] at H
                  have c14b0 : decide (((rd_T31 t306 x7_1).f2) < x6_1) = false := decide_eq_false c14
                  clear c14
                  (first | rw [c14b0] | (simp only [i64_w, i32_w]; rw [c14b0]) | skip)
                  by_cases c16 : ((rd_T31 t306 x7_1).f2) ≥ (a0.size : Int)
                  · rw [if_pos c16] at H
                    have c16b0 : decide ((a0.size : Int) ≤ ((rd_T31 t306 x7_1).f2)) = true := decide_eq_true c16
                    clear c16
                    have H' := Aside0.mk H
                    clear H
                    have hcz17_0 : w12.cell? ⟨gb313, 0, none⟩ = some (.int .i64 0) := (blk_cell BK313.out 0).trans rfl
                    have hcz17_1 : w12.cell? ⟨gb313, 1, none⟩ = some (.string (⟨#[]⟩ : ByteArray)) := (blk_cell BK313.out 1).trans rfl
                    have hcz17_2 : w12.cell? ⟨gb313, 2, none⟩ = some (.int .i64 0) := (blk_cell BK313.out 2).trans rfl
                    have hfz17_0 := blk_frozen BK313.out 0
                    have hfz17_1 := blk_frozen BK313.out 1
                    have hfz17_2 := blk_frozen BK313.out 2
                    go_wp2
                    repeat (go_quiet (fail); try go_wp2)
                    go_meet
                    case rel => exact ⟨_, (true), (by first | rfl | (simp; done) | (simp [*]; done)), H', ⟨by have := HK1.out; first | omega | exact Nat.le_refl _⟩, ⟨by (with_reducible repeat (first | apply Kd.R_alloc | apply Kd.R_drewN | apply Kd.R_drew)); exact Kd.R_mono (Kd.R_far (p := ⟨gb313, 2, none⟩) (Kd.R_far (p := ⟨gb313, 1, none⟩) (Kd.R_far (p := ⟨gb313, 0, none⟩) (Kd.R_mono HO_3.out (fun k_ hk => (⟨hk, hk.2⟩ : _ ∧ k_ ≠ gb313))) (fun _ hk => hk.2) (.int .i64 ((rd_T31 t306 x7_1).f0))) (fun _ hk => hk.2) (.string ((rd_T31 t306 x7_1).f1))) (fun _ hk => hk.2) (.int .i64 ((rd_T31 t306 x7_1).f2))) (fun _ hk => hk.1.2)⟩, ⟨by (with_reducible repeat (first | refine blk_drewN ?_ _ | refine blk_drew ?_ | refine blk_alloc ?_ _)); refine blk_put (cs := #[.int .i64 ((rd_T31 t306 x7_1).f0), .string ((rd_T31 t306 x7_1).f1), .int .i64 0]) ?_ 2 _ rfl; (with_reducible repeat (first | refine blk_drewN ?_ _ | refine blk_drew ?_ | refine blk_alloc ?_ _)); refine blk_put (cs := #[.int .i64 ((rd_T31 t306 x7_1).f0), .string (⟨#[]⟩ : ByteArray), .int .i64 0]) ?_ 1 _ rfl; (with_reducible repeat (first | refine blk_drewN ?_ _ | refine blk_drew ?_ | refine blk_alloc ?_ _)); refine blk_put (cs := #[.int .i64 0, .string (⟨#[]⟩ : ByteArray), .int .i64 0]) ?_ 0 _ rfl; (with_reducible repeat (first | refine blk_drewN ?_ _ | refine blk_drew ?_ | refine blk_alloc ?_ _)); exact BK313.out⟩, ⟨by repeat (first | (with_reducible first | exact HB.out | apply below_alloc | apply pw_below_drewN | apply below_drew1 | refine below_set ?_ GE313.out) | exact HB.out)⟩⟩
                  · rw [if_neg c16] at H
                    have c16b0 : decide ((a0.size : Int) ≤ ((rd_T31 t306 x7_1).f2)) = false := decide_eq_false c16
                    clear c16
                    by_cases c18 : ((rd_T31 t306 x7_1).f0) < 1
                    · rw [if_pos c18] at H
                      have c18b0 : decide (((rd_T31 t306 x7_1).f0) < 1) = true := decide_eq_true c18
                      clear c18
                      have H' := Aside0.mk H
                      clear H
                      have hcz19_0 : w12.cell? ⟨gb313, 0, none⟩ = some (.int .i64 0) := (blk_cell BK313.out 0).trans rfl
                      have hcz19_1 : w12.cell? ⟨gb313, 1, none⟩ = some (.string (⟨#[]⟩ : ByteArray)) := (blk_cell BK313.out 1).trans rfl
                      have hcz19_2 : w12.cell? ⟨gb313, 2, none⟩ = some (.int .i64 0) := (blk_cell BK313.out 2).trans rfl
                      have hfz19_0 := blk_frozen BK313.out 0
                      have hfz19_1 := blk_frozen BK313.out 1
                      have hfz19_2 := blk_frozen BK313.out 2
                      go_wp2
                      repeat (go_quiet (fail); try go_wp2)
                      go_meet
                      case rel => exact ⟨_, (true), (by first | rfl | (simp; done) | (simp [*]; done)), H', ⟨by have := HK1.out; first | omega | exact Nat.le_refl _⟩, ⟨by (with_reducible repeat (first | apply Kd.R_alloc | apply Kd.R_drewN | apply Kd.R_drew)); exact Kd.R_mono (Kd.R_far (p := ⟨gb313, 2, none⟩) (Kd.R_far (p := ⟨gb313, 1, none⟩) (Kd.R_far (p := ⟨gb313, 0, none⟩) (Kd.R_mono HO_3.out (fun k_ hk => (⟨hk, hk.2⟩ : _ ∧ k_ ≠ gb313))) (fun _ hk => hk.2) (.int .i64 ((rd_T31 t306 x7_1).f0))) (fun _ hk => hk.2) (.string ((rd_T31 t306 x7_1).f1))) (fun _ hk => hk.2) (.int .i64 ((rd_T31 t306 x7_1).f2))) (fun _ hk => hk.1.2)⟩, ⟨by (with_reducible repeat (first | refine blk_drewN ?_ _ | refine blk_drew ?_ | refine blk_alloc ?_ _)); refine blk_put (cs := #[.int .i64 ((rd_T31 t306 x7_1).f0), .string ((rd_T31 t306 x7_1).f1), .int .i64 0]) ?_ 2 _ rfl; (with_reducible repeat (first | refine blk_drewN ?_ _ | refine blk_drew ?_ | refine blk_alloc ?_ _)); refine blk_put (cs := #[.int .i64 ((rd_T31 t306 x7_1).f0), .string (⟨#[]⟩ : ByteArray), .int .i64 0]) ?_ 1 _ rfl; (with_reducible repeat (first | refine blk_drewN ?_ _ | refine blk_drew ?_ | refine blk_alloc ?_ _)); refine blk_put (cs := #[.int .i64 0, .string (⟨#[]⟩ : ByteArray), .int .i64 0]) ?_ 0 _ rfl; (with_reducible repeat (first | refine blk_drewN ?_ _ | refine blk_drew ?_ | refine blk_alloc ?_ _)); exact BK313.out⟩, ⟨by repeat (first | (with_reducible first | exact HB.out | apply below_alloc | apply pw_below_drewN | apply below_drew1 | refine below_set ?_ GE313.out) | exact HB.out)⟩⟩
                    · rw [if_neg c18] at H
                      have c18b0 : decide (((rd_T31 t306 x7_1).f0) < 1) = false := decide_eq_false c18
                      clear c18
                      have H' := Aside0.mk H
                      clear H
                      have hcz20_0 : w12.cell? ⟨gb313, 0, none⟩ = some (.int .i64 0) := (blk_cell BK313.out 0).trans rfl
                      have hcz20_1 : w12.cell? ⟨gb313, 1, none⟩ = some (.string (⟨#[]⟩ : ByteArray)) := (blk_cell BK313.out 1).trans rfl
                      have hcz20_2 : w12.cell? ⟨gb313, 2, none⟩ = some (.int .i64 0) := (blk_cell BK313.out 2).trans rfl
                      have hfz20_0 := blk_frozen BK313.out 0
                      have hfz20_1 := blk_frozen BK313.out 1
                      have hfz20_2 := blk_frozen BK313.out 2
                      go_wp2
                      repeat (go_quiet (fail); try go_wp2)
                      go_meet
                      case rel => exact ⟨_, (decide (((rd_T31 t306 x7_1).f0) > 5)), (by first | rfl | (simp; done) | (simp [*]; done)), H', ⟨by have := HK1.out; first | omega | exact Nat.le_refl _⟩, ⟨by (with_reducible repeat (first | apply Kd.R_alloc | apply Kd.R_drewN | apply Kd.R_drew)); exact Kd.R_mono (Kd.R_far (p := ⟨gb313, 2, none⟩) (Kd.R_far (p := ⟨gb313, 1, none⟩) (Kd.R_far (p := ⟨gb313, 0, none⟩) (Kd.R_mono HO_3.out (fun k_ hk => (⟨hk, hk.2⟩ : _ ∧ k_ ≠ gb313))) (fun _ hk => hk.2) (.int .i64 ((rd_T31 t306 x7_1).f0))) (fun _ hk => hk.2) (.string ((rd_T31 t306 x7_1).f1))) (fun _ hk => hk.2) (.int .i64 ((rd_T31 t306 x7_1).f2))) (fun _ hk => hk.1.2)⟩, ⟨by (with_reducible repeat (first | refine blk_drewN ?_ _ | refine blk_drew ?_ | refine blk_alloc ?_ _)); refine blk_put (cs := #[.int .i64 ((rd_T31 t306 x7_1).f0), .string ((rd_T31 t306 x7_1).f1), .int .i64 0]) ?_ 2 _ rfl; (with_reducible repeat (first | refine blk_drewN ?_ _ | refine blk_drew ?_ | refine blk_alloc ?_ _)); refine blk_put (cs := #[.int .i64 ((rd_T31 t306 x7_1).f0), .string (⟨#[]⟩ : ByteArray), .int .i64 0]) ?_ 1 _ rfl; (with_reducible repeat (first | refine blk_drewN ?_ _ | refine blk_drew ?_ | refine blk_alloc ?_ _)); refine blk_put (cs := #[.int .i64 0, .string (⟨#[]⟩ : ByteArray), .int .i64 0]) ?_ 0 _ rfl; (with_reducible repeat (first | refine blk_drewN ?_ _ | refine blk_drew ?_ | refine blk_alloc ?_ _)); exact BK313.out⟩, ⟨by repeat (first | (with_reducible first | exact HB.out | apply below_alloc | apply pw_below_drewN | apply below_drew1 | refine below_set ?_ GE313.out) | exact HB.out)⟩⟩
              case rest =>
                clear HC10
                try clear c1
                try clear p2
                try clear c3
                try clear p3
                try clear q3
                try clear hx3
                try clear c5
                try clear c5b0
                try clear c5b1
                try clear c8
                try clear c8b0
                try clear c9
                try clear c9b0
                try clear c14
                try clear c14b0
                try clear c16
                try clear c16b0
                try clear c18
                try clear c18b0
                try clear hcz13_0
                try clear hcz13_1
                try clear hcz13_2
                try clear hcz15_0
                try clear hcz15_1
                try clear hcz15_2
                try clear hcz17_0
                try clear hcz17_1
                try clear hcz17_2
                try clear hcz19_0
                try clear hcz19_1
                try clear hcz19_2
                try clear hcz20_0
                try clear hcz20_1
                try clear hcz20_2
                try clear hfz13_0
                try clear hfz13_1
                try clear hfz13_2
                try clear hfz15_0
                try clear hfz15_1
                try clear hfz15_2
                try clear hfz17_0
                try clear hfz17_1
                try clear hfz17_2
                try clear hfz19_0
                try clear hfz19_1
                try clear hfz19_2
                try clear hfz20_0
                try clear hfz20_1
                try clear hfz20_2
                try clear hx312_0
                try clear hx312_1
                try clear hx312_2
                try clear p2
                try clear p312
                try clear q312
                obtain ⟨kq, x80_9, rfl, HA, HJ9, HO_3, BK313, HB⟩ := hcut
                cases kq with
                | zero => exact absurd HA.out (by simp [whittlelaw4_LexCovers.j1])
                | succ kj9 =>
                  have H := HA.out
                  clear HA
                  simp only [whittlelaw4_LexCovers.j1] at H
                  by_cases c21 : x80_9 = true
                  · subst c21
                    have H1 : (some false) = some r := by rw [if_pos rfl] at H; exact H
                    clear H
                    have H := H1
                    clear H1
                    obtain rfl := Option.some.inj H
                    go_wp2
                    repeat (go_quiet (fail); try go_wp2)
                    go_ret
                    exact ⟨by first | rfl | (simp [errW_none, errW_some] <;> rfl) | (simp [*, errW_none, errW_some] <;> rfl), by repeat (first | (with_reducible first | exact HB.out | apply below_alloc | apply pw_below_drewN | apply below_drew1 | refine below_set ?_ GE313.out) | exact HB.out)⟩
                  · replace c21 := Bool.eq_false_iff.mpr c21
                    subst c21
                    have H1 : (whittlelaw4_LexCovers.l1 kj9 a0 t306 x7_1 x6_1 ((rd_T31 t306 x7_1).f0) ((rd_T31 t306 x7_1).f1) ((rd_T31 t306 x7_1).f2)) = some r := by rw [if_neg (show ¬ (false = true) by decide)] at H; exact H
                    clear H
                    have H := H1
                    clear H1
                    have H' := Aside0.mk H
                    clear H
                    go_wp2
                    repeat (go_quiet (fail); try go_wp2)
                    go_loopg [9] kj9 (fun kq v9 w' => ∃ (x9_3 : Int), v9 = .int .i64 x9_3 ∧ Aside0 (whittlelaw4_LexCovers.l1 kq a0 t306 x7_1 x9_3 ((rd_T31 t306 x7_1).f0) ((rd_T31 t306 x7_1).f1) ((rd_T31 t306 x7_1).f2) = some r) ∧ Aside0 (kq ≤ kj9) ∧ Aside0 (Kd.R k31 31 w' w.heap.size (fun k_ => k_ ≠ gb313) (.slice (some ad312) t306.length co11) t306) ∧ Aside0 (w'.heap[gb313]? = some (.cells #[.int .i64 ((rd_T31 t306 x7_1).f0), .string ((rd_T31 t306 x7_1).f1), .int .i64 ((rd_T31 t306 x7_1).f2)] 31 (0, 0))) ∧ Aside0 (Below w.heap.size w w'))
                    case atStart => exact ⟨(x6_1), (by first | rfl | (simp; done) | (simp [*]; done)), H', ⟨Nat.le_refl _⟩, ⟨by (with_reducible repeat (first | apply Kd.R_alloc | apply Kd.R_drewN | apply Kd.R_drew)); exact HO_3.out⟩, ⟨by (with_reducible repeat (first | refine blk_drewN ?_ _ | refine blk_drew ?_ | refine blk_alloc ?_ _)); exact BK313.out⟩, ⟨by repeat (first | (with_reducible first | exact HB.out | apply below_alloc | apply pw_below_drewN | apply below_drew1 | refine below_set ?_ GE313.out) | exact HB.out)⟩⟩
                    case round =>
                      clear H'
                      try clear c1
                      try clear c2
                      try clear p2
                      try clear c3
                      try clear p3
                      try clear q3
                      try clear hx3
                      try clear c5
                      try clear c5b0
                      try clear c5b1
                      try clear c8
                      try clear c8b0
                      try clear c9
                      try clear c9b0
                      try clear c14
                      try clear c14b0
                      try clear c16
                      try clear c16b0
                      try clear c18
                      try clear c18b0
                      try clear c21
                      try clear hcz13_0
                      try clear hcz13_1
                      try clear hcz13_2
                      try clear hcz15_0
                      try clear hcz15_1
                      try clear hcz15_2
                      try clear hcz17_0
                      try clear hcz17_1
                      try clear hcz17_2
                      try clear hcz19_0
                      try clear hcz19_1
                      try clear hcz19_2
                      try clear hcz20_0
                      try clear hcz20_1
                      try clear hcz20_2
                      try clear hfz13_0
                      try clear hfz13_1
                      try clear hfz13_2
                      try clear hfz15_0
                      try clear hfz15_1
                      try clear hfz15_2
                      try clear hfz17_0
                      try clear hfz17_1
                      try clear hfz17_2
                      try clear hfz19_0
                      try clear hfz19_1
                      try clear hfz19_2
                      try clear hfz20_0
                      try clear hfz20_1
                      try clear hfz20_2
                      try clear hx312_0
                      try clear hx312_1
                      try clear hx312_2
                      try clear p2
                      try clear p3
                      try clear p312
                      try clear q3
                      try clear q312
                      obtain ⟨x9_3, rfl, HA, HK3, HO_3, BK313, HB⟩ := hrel
                      cases gk with
                      | zero => exact absurd HA.out (by simp [whittlelaw4_LexCovers.l1])
                      | succ k3 =>
                        have H := HA.out
                        clear HA
                        simp only [whittlelaw4_LexCovers.l1] at H
                        by_cases c22 : x9_3 < ((rd_T31 t306 x7_1).f2)
                        · rw [if_pos c22] at H
                          have c22b0 : decide (x9_3 < ((rd_T31 t306 x7_1).f2)) = true := decide_eq_true c22
                          clear c22
                          by_cases c23 : 0 ≤ x9_3
                          · rw [if_pos c23] at H
                            have c23b0 : decide (0 ≤ x9_3) = true := decide_eq_true c23
                            clear c23
                            by_cases c24 : x9_3 < (a0.size : Int)
                            · rw [if_pos c24] at H
                              have c24b0 : decide (x9_3 < (a0.size : Int)) = true := decide_eq_true c24
                              clear c24
                              by_cases c26 : (bt a0 x9_3) = 32
                              · rw [if_pos c26] at H
                                have c26b0 : ((bt a0 x9_3) == 32) = true := beq_iff_eq.mpr c26
                                have c26b1 : ((bt a0 x9_3) != 32) = false := bne_eq_false_iff_eq.mpr c26
                                clear c26
                                have H' := Aside0.mk H
                                clear H
                                have hcz27_0 : wr.cell? ⟨gb313, 0, none⟩ = some (.int .i64 ((rd_T31 t306 x7_1).f0)) := (blk_cell BK313.out 0).trans rfl
                                have hcz27_1 : wr.cell? ⟨gb313, 1, none⟩ = some (.string ((rd_T31 t306 x7_1).f1)) := (blk_cell BK313.out 1).trans rfl
                                have hcz27_2 : wr.cell? ⟨gb313, 2, none⟩ = some (.int .i64 ((rd_T31 t306 x7_1).f2)) := (blk_cell BK313.out 2).trans rfl
                                have hfz27_0 := blk_frozen BK313.out 0
                                have hfz27_1 := blk_frozen BK313.out 1
                                have hfz27_2 := blk_frozen BK313.out 2
                                have p25 : 0 ≤ (x9_3 : Int) := of_decide_eq_true (by first | (with_reducible assumption) | assumption)
                                have q25 : x9_3 < (a0.size : Int) := of_decide_eq_true (by first | (with_reducible assumption) | assumption)
                                have hx25 := bt_at a0 x9_3
                                replace p25 := eq_true p25
                                replace q25 := eq_true q25
                                go_wp2
                                repeat (go_quiet (fail); try go_wp2)
                                go_roundg k3
                                case measure => have := HK1.out; have := HJ9.out; have := HK3.out; omega
                                case rel => exact ⟨(wrap64 (x9_3 + 1)), (by first | rfl | (simp; done) | (simp [*]; done)), H', ⟨by have := HK1.out; have := HJ9.out; have := HK3.out; omega⟩, ⟨by (with_reducible repeat (first | apply Kd.R_alloc | apply Kd.R_drewN | apply Kd.R_drew)); exact HO_3.out⟩, ⟨by (with_reducible repeat (first | refine blk_drewN ?_ _ | refine blk_drew ?_ | refine blk_alloc ?_ _)); exact BK313.out⟩, ⟨by repeat (first | (with_reducible first | exact HB.out | apply below_alloc | apply pw_below_drewN | apply below_drew1 | refine below_set ?_ GE313.out) | exact HB.out)⟩⟩
                              · rw [if_neg c26] at H
                                have c26b0 : ((bt a0 x9_3) == 32) = false := beq_eq_false_iff_ne.mpr c26
                                have c26b1 : ((bt a0 x9_3) != 32) = true := bne_iff_ne.mpr c26
                                obtain rfl := Option.some.inj H
                                have hcz28_0 : wr.cell? ⟨gb313, 0, none⟩ = some (.int .i64 ((rd_T31 t306 x7_1).f0)) := (blk_cell BK313.out 0).trans rfl
                                have hcz28_1 : wr.cell? ⟨gb313, 1, none⟩ = some (.string ((rd_T31 t306 x7_1).f1)) := (blk_cell BK313.out 1).trans rfl
                                have hcz28_2 : wr.cell? ⟨gb313, 2, none⟩ = some (.int .i64 ((rd_T31 t306 x7_1).f2)) := (blk_cell BK313.out 2).trans rfl
                                have hfz28_0 := blk_frozen BK313.out 0
                                have hfz28_1 := blk_frozen BK313.out 1
                                have hfz28_2 := blk_frozen BK313.out 2
                                have p25 : 0 ≤ (x9_3 : Int) := of_decide_eq_true (by first | (with_reducible assumption) | assumption)
                                have q25 : x9_3 < (a0.size : Int) := of_decide_eq_true (by first | (with_reducible assumption) | assumption)
                                have hx25 := bt_at a0 x9_3
                                replace p25 := eq_true p25
                                replace q25 := eq_true q25
                                go_wp2
                                repeat (go_quiet (fail); try go_wp2)
                                go_ret
                                exact ⟨by first | rfl | (simp [errW_none, errW_some] <;> rfl) | (simp [*, errW_none, errW_some] <;> rfl), by repeat (first | (with_reducible first | exact HB.out | apply below_alloc | apply pw_below_drewN | apply below_drew1 | refine below_set ?_ GE313.out) | exact HB.out)⟩
                            · rw [if_neg c24] at H
                              exact absurd H (by simp)
                          · rw [if_neg c23] at H
                            exact absurd H (by simp)
                        · rw [if_neg c22] at H
                          have c22b0 : decide (x9_3 < ((rd_T31 t306 x7_1).f2)) = false := decide_eq_false c22
                          clear c22
                          by_cases c29 : ((rd_T31 t306 x7_1).f0) = 2
                          · rw [if_pos c29] at H
                            have c29b0 : (((rd_T31 t306 x7_1).f0) == 2) = true := beq_iff_eq.mpr c29
                            have c29b1 : (((rd_T31 t306 x7_1).f0) != 2) = false := bne_eq_false_iff_eq.mpr c29
                            clear c29
                            have H' := Aside0.mk H
                            clear H
                            have hcz30_0 : wr.cell? ⟨gb313, 0, none⟩ = some (.int .i64 ((rd_T31 t306 x7_1).f0)) := (blk_cell BK313.out 0).trans rfl
                            have hcz30_1 : wr.cell? ⟨gb313, 1, none⟩ = some (.string ((rd_T31 t306 x7_1).f1)) := (blk_cell BK313.out 1).trans rfl
                            have hcz30_2 : wr.cell? ⟨gb313, 2, none⟩ = some (.int .i64 ((rd_T31 t306 x7_1).f2)) := (blk_cell BK313.out 2).trans rfl
                            have hfz30_0 := blk_frozen BK313.out 0
                            have hfz30_1 := blk_frozen BK313.out 1
                            have hfz30_2 := blk_frozen BK313.out 2
                            go_wp2
                            repeat (go_quiet (fail); try go_wp2)
                            go_loopg [10, 11] k3 (fun kq v10 v11 w' => ∃ (x10_4 : Int) (x11_4 : Int), v10 = .int .i64 x10_4 ∧ v11 = .int .i64 x11_4 ∧ Aside0 (whittlelaw4_LexCovers.l2 kq a0 t306 x7_1 x10_4 x11_4 ((rd_T31 t306 x7_1).f0) ((rd_T31 t306 x7_1).f1) ((rd_T31 t306 x7_1).f2) = some r) ∧ Aside0 (kq ≤ k3) ∧ Aside0 (Kd.R k31 31 w' w.heap.size (fun k_ => k_ ≠ gb313) (.slice (some ad312) t306.length co11) t306) ∧ Aside0 (w'.heap[gb313]? = some (.cells #[.int .i64 ((rd_T31 t306 x7_1).f0), .string ((rd_T31 t306 x7_1).f1), .int .i64 ((rd_T31 t306 x7_1).f2)] 31 (0, 0))) ∧ Aside0 (Below w.heap.size w w'))
                            case atStart => exact ⟨(2), (0), (by first | rfl | (simp; done) | (simp [*]; done)), (by first | rfl | (simp; done) | (simp [*]; done)), H', ⟨Nat.le_refl _⟩, ⟨by (with_reducible repeat (first | apply Kd.R_alloc | apply Kd.R_drewN | apply Kd.R_drew)); exact HO_3.out⟩, ⟨by (with_reducible repeat (first | refine blk_drewN ?_ _ | refine blk_drew ?_ | refine blk_alloc ?_ _)); exact BK313.out⟩, ⟨by repeat (first | (with_reducible first | exact HB.out | apply below_alloc | apply pw_below_drewN | apply below_drew1 | refine below_set ?_ GE313.out) | exact HB.out)⟩⟩
                            case round =>
                              clear H'
                              try clear c1
                              try clear c2
                              try clear p2
                              try clear q2
                              try clear hx2
                              try clear c3
                              try clear p3
                              try clear q3
                              try clear hx3
                              try clear c5
                              try clear c5b0
                              try clear c5b1
                              try clear p6
                              try clear c8
                              try clear c8b0
                              try clear c9
                              try clear c9b0
                              try clear c14
                              try clear c14b0
                              try clear c16
                              try clear c16b0
                              try clear c18
                              try clear c18b0
                              try clear c21
                              try clear c22
                              try clear c22b0
                              try clear c23
                              try clear c23b0
                              try clear c24
                              try clear c24b0
                              try clear p25
                              try clear q25
                              try clear hx25
                              try clear c26
                              try clear c26b0
                              try clear c26b1
                              try clear c29
                              try clear c29b0
                              try clear c29b1
                              try clear hcz13_0
                              try clear hcz13_1
                              try clear hcz13_2
                              try clear hcz15_0
                              try clear hcz15_1
                              try clear hcz15_2
                              try clear hcz17_0
                              try clear hcz17_1
                              try clear hcz17_2
                              try clear hcz19_0
                              try clear hcz19_1
                              try clear hcz19_2
                              try clear hcz20_0
                              try clear hcz20_1
                              try clear hcz20_2
                              try clear hcz27_0
                              try clear hcz27_1
                              try clear hcz27_2
                              try clear hcz28_0
                              try clear hcz28_1
                              try clear hcz28_2
                              try clear hcz30_0
                              try clear hcz30_1
                              try clear hcz30_2
                              try clear hfz13_0
                              try clear hfz13_1
                              try clear hfz13_2
                              try clear hfz15_0
                              try clear hfz15_1
                              try clear hfz15_2
                              try clear hfz17_0
                              try clear hfz17_1
                              try clear hfz17_2
                              try clear hfz19_0
                              try clear hfz19_1
                              try clear hfz19_2
                              try clear hfz20_0
                              try clear hfz20_1
                              try clear hfz20_2
                              try clear hfz27_0
                              try clear hfz27_1
                              try clear hfz27_2
                              try clear hfz28_0
                              try clear hfz28_1
                              try clear hfz28_2
                              try clear hfz30_0
                              try clear hfz30_1
                              try clear hfz30_2
                              try clear hx312_0
                              try clear hx312_1
                              try clear hx312_2
                              try clear p2
                              try clear p25
                              try clear p3
                              try clear p312
                              try clear q25
                              try clear q3
                              try clear q312
                              obtain ⟨x10_4, x11_4, rfl, rfl, HA, HK4, HO_3, BK313, HB⟩ := hrel
                              cases gk with
                              | zero => exact absurd HA.out (by simp [whittlelaw4_LexCovers.l2])
                              | succ k4 =>
                                have H := HA.out
                                clear HA
                                simp only [whittlelaw4_LexCovers.l2] at H
                                by_cases c31 : x11_4 < (((rd_T31 t306 x7_1).f1).size : Int)
                                · rw [if_pos c31] at H
                                  have c31b0 : decide (x11_4 < (((rd_T31 t306 x7_1).f1).size : Int)) = true := decide_eq_true c31
                                  clear c31
                                  by_cases c32 : 0 ≤ x11_4
                                  · rw [if_pos c32] at H
                                    have c32b0 : decide (0 ≤ x11_4) = true := decide_eq_true c32
                                    clear c32
                                    by_cases c34 : (bt ((rd_T31 t306 x7_1).f1) x11_4) = 34
                                    · rw [if_pos c34] at H
                                      have c34b0 : ((bt ((rd_T31 t306 x7_1).f1) x11_4) == 34) = true := beq_iff_eq.mpr c34
                                      have c34b1 : ((bt ((rd_T31 t306 x7_1).f1) x11_4) != 34) = false := bne_eq_false_iff_eq.mpr c34
                                      clear c34
                                      have H' := Aside0.mk H
                                      clear H
                                      have hcz35_0 : wr.cell? ⟨gb313, 0, none⟩ = some (.int .i64 ((rd_T31 t306 x7_1).f0)) := (blk_cell BK313.out 0).trans rfl
                                      have hcz35_1 : wr.cell? ⟨gb313, 1, none⟩ = some (.string ((rd_T31 t306 x7_1).f1)) := (blk_cell BK313.out 1).trans rfl
                                      have hcz35_2 : wr.cell? ⟨gb313, 2, none⟩ = some (.int .i64 ((rd_T31 t306 x7_1).f2)) := (blk_cell BK313.out 2).trans rfl
                                      have hfz35_0 := blk_frozen BK313.out 0
                                      have hfz35_1 := blk_frozen BK313.out 1
                                      have hfz35_2 := blk_frozen BK313.out 2
                                      have p33 : 0 ≤ (x11_4 : Int) := of_decide_eq_true (by first | (with_reducible assumption) | assumption)
                                      have q33 : x11_4 < (((rd_T31 t306 x7_1).f1).size : Int) := of_decide_eq_true (by first | (with_reducible assumption) | assumption)
                                      have hx33 := bt_at ((rd_T31 t306 x7_1).f1) x11_4
                                      replace p33 := eq_true p33
                                      replace q33 := eq_true q33
                                      go_wp2
                                      repeat (go_quiet (fail); try go_wp2)
                                      go_roundg k4
                                      case measure => have := HK1.out; have := HJ9.out; have := HK3.out; have := HK4.out; omega
                                      case rel => exact ⟨(wrap64 ((wrap64 (x10_4 + 1)) + 1)), (wrap64 (x11_4 + 1)), (by first | rfl | (simp; done) | (simp [*]; done)), (by first | rfl | (simp; done) | (simp [*]; done)), H', ⟨by have := HK1.out; have := HJ9.out; have := HK3.out; have := HK4.out; omega⟩, ⟨by (with_reducible repeat (first | apply Kd.R_alloc | apply Kd.R_drewN | apply Kd.R_drew)); exact HO_3.out⟩, ⟨by (with_reducible repeat (first | refine blk_drewN ?_ _ | refine blk_drew ?_ | refine blk_alloc ?_ _)); exact BK313.out⟩, ⟨by repeat (first | (with_reducible first | exact HB.out | apply below_alloc | apply pw_below_drewN | apply below_drew1 | refine below_set ?_ GE313.out) | exact HB.out)⟩⟩
                                    · rw [if_neg c34] at H
                                      have c34b0 : ((bt ((rd_T31 t306 x7_1).f1) x11_4) == 34) = false := beq_eq_false_iff_ne.mpr c34
                                      have c34b1 : ((bt ((rd_T31 t306 x7_1).f1) x11_4) != 34) = true := bne_iff_ne.mpr c34
                                      have H' := Aside0.mk H
                                      clear H
                                      have hcz36_0 : wr.cell? ⟨gb313, 0, none⟩ = some (.int .i64 ((rd_T31 t306 x7_1).f0)) := (blk_cell BK313.out 0).trans rfl
                                      have hcz36_1 : wr.cell? ⟨gb313, 1, none⟩ = some (.string ((rd_T31 t306 x7_1).f1)) := (blk_cell BK313.out 1).trans rfl
                                      have hcz36_2 : wr.cell? ⟨gb313, 2, none⟩ = some (.int .i64 ((rd_T31 t306 x7_1).f2)) := (blk_cell BK313.out 2).trans rfl
                                      have hfz36_0 := blk_frozen BK313.out 0
                                      have hfz36_1 := blk_frozen BK313.out 1
                                      have hfz36_2 := blk_frozen BK313.out 2
                                      have p33 : 0 ≤ (x11_4 : Int) := of_decide_eq_true (by first | (with_reducible assumption) | assumption)
                                      have q33 : x11_4 < (((rd_T31 t306 x7_1).f1).size : Int) := of_decide_eq_true (by first | (with_reducible assumption) | assumption)
                                      have hx33 := bt_at ((rd_T31 t306 x7_1).f1) x11_4
                                      replace p33 := eq_true p33
                                      replace q33 := eq_true q33
                                      go_wp2
                                      repeat (go_quiet (fail); try go_wp2)
                                      go_roundg k4
                                      case measure => have := HK1.out; have := HJ9.out; have := HK3.out; have := HK4.out; omega
                                      case rel => exact ⟨(wrap64 (x10_4 + 1)), (wrap64 (x11_4 + 1)), (by first | rfl | (simp; done) | (simp [*]; done)), (by first | rfl | (simp; done) | (simp [*]; done)), H', ⟨by have := HK1.out; have := HJ9.out; have := HK3.out; have := HK4.out; omega⟩, ⟨by (with_reducible repeat (first | apply Kd.R_alloc | apply Kd.R_drewN | apply Kd.R_drew)); exact HO_3.out⟩, ⟨by (with_reducible repeat (first | refine blk_drewN ?_ _ | refine blk_drew ?_ | refine blk_alloc ?_ _)); exact BK313.out⟩, ⟨by repeat (first | (with_reducible first | exact HB.out | apply below_alloc | apply pw_below_drewN | apply below_drew1 | refine below_set ?_ GE313.out) | exact HB.out)⟩⟩
                                  · rw [if_neg c32] at H
                                    exact absurd H (by simp)
                                · rw [if_neg c31] at H
                                  have c31b0 : decide (x11_4 < (((rd_T31 t306 x7_1).f1).size : Int)) = false := decide_eq_false c31
                                  clear c31
                                  have H' := Aside0.mk H
                                  clear H
                                  have hcz37_0 : wr.cell? ⟨gb313, 0, none⟩ = some (.int .i64 ((rd_T31 t306 x7_1).f0)) := (blk_cell BK313.out 0).trans rfl
                                  have hcz37_1 : wr.cell? ⟨gb313, 1, none⟩ = some (.string ((rd_T31 t306 x7_1).f1)) := (blk_cell BK313.out 1).trans rfl
                                  have hcz37_2 : wr.cell? ⟨gb313, 2, none⟩ = some (.int .i64 ((rd_T31 t306 x7_1).f2)) := (blk_cell BK313.out 2).trans rfl
                                  have hfz37_0 := blk_frozen BK313.out 0
                                  have hfz37_1 := blk_frozen BK313.out 1
                                  have hfz37_2 := blk_frozen BK313.out 2
                                  go_wp2
                                  repeat (go_quiet (fail); try go_wp2)
                                  go_roundg k4
                                  case measure => have := HK1.out; have := HJ9.out; have := HK3.out; have := HK4.out; omega
                                  case rel => exact ⟨(wrap64 (((rd_T31 t306 x7_1).f2) + x10_4)), (wrap64 (x7_1 + 1)), (by first | rfl | (simp; done) | (simp [*]; done)), (by first | rfl | (simp; done) | (simp [*]; done)), H', ⟨by have := HK1.out; have := HJ9.out; have := HK3.out; have := HK4.out; omega⟩, ⟨by (with_reducible repeat (first | apply Kd.R_alloc | apply Kd.R_drewN | apply Kd.R_drew)); exact Kd.R_mono HO_3.out (fun _ hk => trivial)⟩, ⟨by repeat (first | (with_reducible first | exact HB.out | apply below_alloc | apply pw_below_drewN | apply below_drew1 | refine below_set ?_ GE313.out) | exact HB.out)⟩⟩
                          · rw [if_neg c29] at H
                            have c29b0 : (((rd_T31 t306 x7_1).f0) == 2) = false := beq_eq_false_iff_ne.mpr c29
                            have c29b1 : (((rd_T31 t306 x7_1).f0) != 2) = true := bne_iff_ne.mpr c29
                            by_cases c38 : (wrap64 ((a0.size : Int) - ((rd_T31 t306 x7_1).f2))) < (((rd_T31 t306 x7_1).f1).size : Int)
                            · rw [if_pos c38] at H
                              have c38b0 : decide ((wrap64 ((a0.size : Int) - ((rd_T31 t306 x7_1).f2))) < (((rd_T31 t306 x7_1).f1).size : Int)) = true := decide_eq_true c38
                              clear c38
                              obtain rfl := Option.some.inj H
                              have hcz39_0 : wr.cell? ⟨gb313, 0, none⟩ = some (.int .i64 ((rd_T31 t306 x7_1).f0)) := (blk_cell BK313.out 0).trans rfl
                              have hcz39_1 : wr.cell? ⟨gb313, 1, none⟩ = some (.string ((rd_T31 t306 x7_1).f1)) := (blk_cell BK313.out 1).trans rfl
                              have hcz39_2 : wr.cell? ⟨gb313, 2, none⟩ = some (.int .i64 ((rd_T31 t306 x7_1).f2)) := (blk_cell BK313.out 2).trans rfl
                              have hfz39_0 := blk_frozen BK313.out 0
                              have hfz39_1 := blk_frozen BK313.out 1
                              have hfz39_2 := blk_frozen BK313.out 2
                              go_wp2
                              repeat (go_quiet (fail); try go_wp2)
                              go_ret
                              exact ⟨by first | rfl | (simp [errW_none, errW_some] <;> rfl) | (simp [*, errW_none, errW_some] <;> rfl), by repeat (first | (with_reducible first | exact HB.out | apply below_alloc | apply pw_below_drewN | apply below_drew1 | refine below_set ?_ GE313.out) | exact HB.out)⟩
                            · rw [if_neg c38] at H
                              have c38b0 : decide ((wrap64 ((a0.size : Int) - ((rd_T31 t306 x7_1).f2))) < (((rd_T31 t306 x7_1).f1).size : Int)) = false := decide_eq_false c38
                              clear c38
                              by_cases c40 : (((rd_T31 t306 x7_1).f1).size : Int) = 0
                              · rw [if_pos c40] at H
                                have c40b0 : ((((rd_T31 t306 x7_1).f1).size : Int) == 0) = true := beq_iff_eq.mpr c40
                                have c40b1 : ((((rd_T31 t306 x7_1).f1).size : Int) != 0) = false := bne_eq_false_iff_eq.mpr c40
                                clear c40
                                obtain rfl := Option.some.inj H
                                have hcz41_0 : wr.cell? ⟨gb313, 0, none⟩ = some (.int .i64 ((rd_T31 t306 x7_1).f0)) := (blk_cell BK313.out 0).trans rfl
                                have hcz41_1 : wr.cell? ⟨gb313, 1, none⟩ = some (.string ((rd_T31 t306 x7_1).f1)) := (blk_cell BK313.out 1).trans rfl
                                have hcz41_2 : wr.cell? ⟨gb313, 2, none⟩ = some (.int .i64 ((rd_T31 t306 x7_1).f2)) := (blk_cell BK313.out 2).trans rfl
                                have hfz41_0 := blk_frozen BK313.out 0
                                have hfz41_1 := blk_frozen BK313.out 1
                                have hfz41_2 := blk_frozen BK313.out 2
                                go_wp2
                                repeat (go_quiet (fail); try go_wp2)
                                go_ret
                                exact ⟨by first | rfl | (simp [errW_none, errW_some] <;> rfl) | (simp [*, errW_none, errW_some] <;> rfl), by repeat (first | (with_reducible first | exact HB.out | apply below_alloc | apply pw_below_drewN | apply below_drew1 | refine below_set ?_ GE313.out) | exact HB.out)⟩
                              · rw [if_neg c40] at H
                                have c40b0 : ((((rd_T31 t306 x7_1).f1).size : Int) == 0) = false := beq_eq_false_iff_ne.mpr c40
                                have c40b1 : ((((rd_T31 t306 x7_1).f1).size : Int) != 0) = true := bne_iff_ne.mpr c40
                                by_cases c42 : 0 ≤ ((rd_T31 t306 x7_1).f2)
                                · rw [if_pos c42] at H
                                  have c42b0 := eq_true c42
                                  have c42b1 : decide (0 ≤ ((rd_T31 t306 x7_1).f2)) = true := decide_eq_true c42
                                  clear c42
                                  by_cases c43 : ((rd_T31 t306 x7_1).f2) ≤ (wrap64 (((rd_T31 t306 x7_1).f2) + (((rd_T31 t306 x7_1).f1).size : Int)))
                                  · rw [if_pos c43] at H
                                    have c43b0 := eq_true c43
                                    have c43b1 : decide (((rd_T31 t306 x7_1).f2) ≤ (wrap64 (((rd_T31 t306 x7_1).f2) + (((rd_T31 t306 x7_1).f1).size : Int)))) = true := decide_eq_true c43
                                    by_cases c44 : (wrap64 (((rd_T31 t306 x7_1).f2) + (((rd_T31 t306 x7_1).f1).size : Int))) ≤ (a0.size : Int)
                                    · rw [if_pos c44] at H
                                      have c44b0 := eq_true c44
                                      have c44b1 : decide ((wrap64 (((rd_T31 t306 x7_1).f2) + (((rd_T31 t306 x7_1).f1).size : Int))) ≤ (a0.size : Int)) = true := decide_eq_true c44
                                      by_cases c45 : (a0.extract (((rd_T31 t306 x7_1).f2) : Int).toNat ((wrap64 (((rd_T31 t306 x7_1).f2) + (((rd_T31 t306 x7_1).f1).size : Int))) : Int).toNat).toList = ((rd_T31 t306 x7_1).f1).toList
                                      · rw [if_pos c45] at H
                                        have c45b0 : ((a0.extract (((rd_T31 t306 x7_1).f2) : Int).toNat ((wrap64 (((rd_T31 t306 x7_1).f2) + (((rd_T31 t306 x7_1).f1).size : Int))) : Int).toNat).toList == ((rd_T31 t306 x7_1).f1).toList) = true := beq_iff_eq.mpr c45
                                        have c45b1 : ((a0.extract (((rd_T31 t306 x7_1).f2) : Int).toNat ((wrap64 (((rd_T31 t306 x7_1).f2) + (((rd_T31 t306 x7_1).f1).size : Int))) : Int).toNat).toList != ((rd_T31 t306 x7_1).f1).toList) = false := bne_eq_false_iff_eq.mpr c45
                                        clear c45
                                        have H' := Aside0.mk H
                                        clear H
                                        have hcz46_0 : wr.cell? ⟨gb313, 0, none⟩ = some (.int .i64 ((rd_T31 t306 x7_1).f0)) := (blk_cell BK313.out 0).trans rfl
                                        have hcz46_1 : wr.cell? ⟨gb313, 1, none⟩ = some (.string ((rd_T31 t306 x7_1).f1)) := (blk_cell BK313.out 1).trans rfl
                                        have hcz46_2 : wr.cell? ⟨gb313, 2, none⟩ = some (.int .i64 ((rd_T31 t306 x7_1).f2)) := (blk_cell BK313.out 2).trans rfl
                                        have hfz46_0 := blk_frozen BK313.out 0
                                        have hfz46_1 := blk_frozen BK313.out 1
                                        have hfz46_2 := blk_frozen BK313.out 2
                                        go_wp2
                                        repeat (go_quiet (fail); try go_wp2)
                                        go_roundg k3
                                        case measure => have := HK1.out; have := HJ9.out; have := HK3.out; omega
                                        case rel => exact ⟨(wrap64 (((rd_T31 t306 x7_1).f2) + (((rd_T31 t306 x7_1).f1).size : Int))), (wrap64 (x7_1 + 1)), (by first | rfl | (simp; done) | (simp [*]; done)), (by first | rfl | (simp; done) | (simp [*]; done)), H', ⟨by have := HK1.out; have := HJ9.out; have := HK3.out; omega⟩, ⟨by (with_reducible repeat (first | apply Kd.R_alloc | apply Kd.R_drewN | apply Kd.R_drew)); exact Kd.R_mono HO_3.out (fun _ hk => trivial)⟩, ⟨by repeat (first | (with_reducible first | exact HB.out | apply below_alloc | apply pw_below_drewN | apply below_drew1 | refine below_set ?_ GE313.out) | exact HB.out)⟩⟩
                                      · rw [if_neg c45] at H
                                        have c45b0 : ((a0.extract (((rd_T31 t306 x7_1).f2) : Int).toNat ((wrap64 (((rd_T31 t306 x7_1).f2) + (((rd_T31 t306 x7_1).f1).size : Int))) : Int).toNat).toList == ((rd_T31 t306 x7_1).f1).toList) = false := beq_eq_false_iff_ne.mpr c45
                                        have c45b1 : ((a0.extract (((rd_T31 t306 x7_1).f2) : Int).toNat ((wrap64 (((rd_T31 t306 x7_1).f2) + (((rd_T31 t306 x7_1).f1).size : Int))) : Int).toNat).toList != ((rd_T31 t306 x7_1).f1).toList) = true := bne_iff_ne.mpr c45
                                        obtain rfl := Option.some.inj H
                                        have hcz47_0 : wr.cell? ⟨gb313, 0, none⟩ = some (.int .i64 ((rd_T31 t306 x7_1).f0)) := (blk_cell BK313.out 0).trans rfl
                                        have hcz47_1 : wr.cell? ⟨gb313, 1, none⟩ = some (.string ((rd_T31 t306 x7_1).f1)) := (blk_cell BK313.out 1).trans rfl
                                        have hcz47_2 : wr.cell? ⟨gb313, 2, none⟩ = some (.int .i64 ((rd_T31 t306 x7_1).f2)) := (blk_cell BK313.out 2).trans rfl
                                        have hfz47_0 := blk_frozen BK313.out 0
                                        have hfz47_1 := blk_frozen BK313.out 1
                                        have hfz47_2 := blk_frozen BK313.out 2
                                        go_wp2
                                        repeat (go_quiet (fail); try go_wp2)
                                        go_ret
                                        exact ⟨by first | rfl | (simp [errW_none, errW_some] <;> rfl) | (simp [*, errW_none, errW_some] <;> rfl), by repeat (first | (with_reducible first | exact HB.out | apply below_alloc | apply pw_below_drewN | apply below_drew1 | refine below_set ?_ GE313.out) | exact HB.out)⟩
                                    · rw [if_neg c44] at H
                                      exact absurd H (by simp)
                                  · rw [if_neg c43] at H
                                    exact absurd H (by simp)
                                · rw [if_neg c42] at H
                                  exact absurd H (by simp)
            · rw [if_neg c9] at H
              exact absurd H (by simp)
          · rw [if_neg c8] at H
            have c8b0 : decide (x7_1 < (t306.length : Int)) = false := decide_eq_false c8
            clear c8
            have H' := Aside0.mk H
            clear H
            obtain ⟨Ao48, co48, eo48⟩ := Kd.R_slice HO_3.out
            subst eo48
            go_wp2
            repeat (go_quiet (fail); try go_wp2)
            go_loopg [12] k1 (fun kq v12 w' => ∃ (x12_2 : Int), v12 = .int .i64 x12_2 ∧ Aside0 (whittlelaw4_LexCovers.l3 kq a0 x12_2 = some r) ∧ Aside0 (kq ≤ k1) ∧ Aside0 (Below w.heap.size w w'))
            case atStart => exact ⟨(x6_1), (by first | rfl | (simp; done) | (simp [*]; done)), H', ⟨Nat.le_refl _⟩, ⟨by repeat (first | (with_reducible first | exact HB.out | apply below_alloc | apply pw_below_drewN | apply below_drew1) | exact HB.out)⟩⟩
            case round =>
              clear H'
              try clear c1
              try clear c2
              try clear p2
              try clear q2
              try clear hx2
              try clear c3
              try clear p3
              try clear q3
              try clear hx3
              try clear c4
              try clear c5
              try clear c5b0
              try clear c5b1
              try clear p6
              try clear c8
              try clear c8b0
              try clear c9
              try clear c9b0
              try clear c14
              try clear c14b0
              try clear c16
              try clear c16b0
              try clear c18
              try clear c18b0
              try clear c21
              try clear c22
              try clear c22b0
              try clear c23
              try clear c23b0
              try clear c24
              try clear c24b0
              try clear p25
              try clear q25
              try clear hx25
              try clear c26
              try clear c26b0
              try clear c26b1
              try clear c29
              try clear c29b0
              try clear c29b1
              try clear c31
              try clear c31b0
              try clear p31
              try clear q31
              try clear hx31
              try clear c32
              try clear c32b0
              try clear p33
              try clear q33
              try clear hx33
              try clear c34
              try clear c34b0
              try clear c34b1
              try clear c38
              try clear c38b0
              try clear c40
              try clear c40b0
              try clear c40b1
              try clear c42
              try clear c42b0
              try clear c42b1
              try clear c43
              try clear c43b0
              try clear c43b1
              try clear c44
              try clear c44b0
              try clear c44b1
              try clear c45
              try clear c45b0
              try clear c45b1
              try clear hcz13_0
              try clear hcz13_1
              try clear hcz13_2
              try clear hcz15_0
              try clear hcz15_1
              try clear hcz15_2
              try clear hcz17_0
              try clear hcz17_1
              try clear hcz17_2
              try clear hcz19_0
              try clear hcz19_1
              try clear hcz19_2
              try clear hcz20_0
              try clear hcz20_1
              try clear hcz20_2
              try clear hcz27_0
              try clear hcz27_1
              try clear hcz27_2
              try clear hcz28_0
              try clear hcz28_1
              try clear hcz28_2
              try clear hcz30_0
              try clear hcz30_1
              try clear hcz30_2
              try clear hcz35_0
              try clear hcz35_1
              try clear hcz35_2
              try clear hcz36_0
              try clear hcz36_1
              try clear hcz36_2
              try clear hcz37_0
              try clear hcz37_1
              try clear hcz37_2
              try clear hcz39_0
              try clear hcz39_1
              try clear hcz39_2
              try clear hcz41_0
              try clear hcz41_1
              try clear hcz41_2
              try clear hcz46_0
              try clear hcz46_1
              try clear hcz46_2
              try clear hcz47_0
              try clear hcz47_1
              try clear hcz47_2
              try clear hfz13_0
              try clear hfz13_1
              try clear hfz13_2
              try clear hfz15_0
              try clear hfz15_1
              try clear hfz15_2
              try clear hfz17_0
              try clear hfz17_1
              try clear hfz17_2
              try clear hfz19_0
              try clear hfz19_1
              try clear hfz19_2
              try clear hfz20_0
              try clear hfz20_1
              try clear hfz20_2
              try clear hfz27_0
              try clear hfz27_1
              try clear hfz27_2
              try clear hfz28_0
              try clear hfz28_1
              try clear hfz28_2
              try clear hfz30_0
              try clear hfz30_1
              try clear hfz30_2
              try clear hfz35_0
              try clear hfz35_1
              try clear hfz35_2
              try clear hfz36_0
              try clear hfz36_1
              try clear hfz36_2
              try clear hfz37_0
              try clear hfz37_1
              try clear hfz37_2
              try clear hfz39_0
              try clear hfz39_1
              try clear hfz39_2
              try clear hfz41_0
              try clear hfz41_1
              try clear hfz41_2
              try clear hfz46_0
              try clear hfz46_1
              try clear hfz46_2
              try clear hfz47_0
              try clear hfz47_1
              try clear hfz47_2
              try clear hx312_0
              try clear hx312_1
              try clear hx312_2
              try clear p2
              try clear p25
              try clear p3
              try clear p312
              try clear p33
              try clear p6
              try clear q2
              try clear q25
              try clear q3
              try clear q312
              try clear q33
              obtain ⟨x12_2, rfl, HA, HK2, HB⟩ := hrel
              cases gk with
              | zero => exact absurd HA.out (by simp [whittlelaw4_LexCovers.l3])
              | succ k2 =>
                have H := HA.out
                clear HA
                simp only [whittlelaw4_LexCovers.l3] at H
                by_cases c49 : x12_2 < (a0.size : Int)
                · rw [if_pos c49] at H
                  have c49b0 : decide (x12_2 < (a0.size : Int)) = true := decide_eq_true c49
                  clear c49
                  by_cases c50 : 0 ≤ x12_2
                  · rw [if_pos c50] at H
                    have c50b0 : decide (0 ≤ x12_2) = true := decide_eq_true c50
                    clear c50
                    by_cases c52 : (bt a0 x12_2) = 32
                    · rw [if_pos c52] at H
                      have c52b0 : ((bt a0 x12_2) == 32) = true := beq_iff_eq.mpr c52
                      have c52b1 : ((bt a0 x12_2) != 32) = false := bne_eq_false_iff_eq.mpr c52
                      clear c52
                      have H' := Aside0.mk H
                      clear H
                      have p51 : 0 ≤ (x12_2 : Int) := of_decide_eq_true (by first | (with_reducible assumption) | assumption)
                      have q51 : x12_2 < (a0.size : Int) := of_decide_eq_true (by first | (with_reducible assumption) | assumption)
                      have hx51 := bt_at a0 x12_2
                      replace p51 := eq_true p51
                      replace q51 := eq_true q51
                      go_wp2
                      repeat (go_quiet (fail); try go_wp2)
                      go_roundg k2
                      case measure => have := HK1.out; have := HK2.out; omega
                      case rel => exact ⟨(wrap64 (x12_2 + 1)), (by first | rfl | (simp; done) | (simp [*]; done)), H', ⟨by have := HK1.out; have := HK2.out; omega⟩, ⟨by repeat (first | (with_reducible first | exact HB.out | apply below_alloc | apply pw_below_drewN | apply below_drew1) | exact HB.out)⟩⟩
                    · rw [if_neg c52] at H
                      have c52b0 : ((bt a0 x12_2) == 32) = false := beq_eq_false_iff_ne.mpr c52
                      have c52b1 : ((bt a0 x12_2) != 32) = true := bne_iff_ne.mpr c52
                      obtain rfl := Option.some.inj H
                      have p51 : 0 ≤ (x12_2 : Int) := of_decide_eq_true (by first | (with_reducible assumption) | assumption)
                      have q51 : x12_2 < (a0.size : Int) := of_decide_eq_true (by first | (with_reducible assumption) | assumption)
                      have hx51 := bt_at a0 x12_2
                      replace p51 := eq_true p51
                      replace q51 := eq_true q51
                      go_wp2
                      repeat (go_quiet (fail); try go_wp2)
                      go_ret
                      exact ⟨by first | rfl | (simp [errW_none, errW_some] <;> rfl) | (simp [*, errW_none, errW_some] <;> rfl), by repeat (first | (with_reducible first | exact HB.out | apply below_alloc | apply pw_below_drewN | apply below_drew1) | exact HB.out)⟩
                  · rw [if_neg c50] at H
                    exact absurd H (by simp)
                · rw [if_neg c49] at H
                  have c49b0 : decide (x12_2 < (a0.size : Int)) = false := decide_eq_false c49
                  clear c49
                  obtain rfl := Option.some.inj H
                  go_wp2
                  repeat (go_quiet (fail); try go_wp2)
                  go_ret
                  exact ⟨by first | rfl | (simp [errW_none, errW_some] <;> rfl) | (simp [*, errW_none, errW_some] <;> rfl), by repeat (first | (with_reducible first | exact HB.out | apply below_alloc | apply pw_below_drewN | apply below_drew1) | exact HB.out)⟩
    · rw [if_neg c5] at H
      have c5b0 : (t307 == 0) = false := beq_eq_false_iff_ne.mpr c5
      have c5b1 : (t307 != 0) = true := bne_iff_ne.mpr c5
      by_cases c53 : t308 ≥ 0
      · rw [if_pos c53] at H
        have c53b0 : decide (0 ≤ t308) = true := decide_eq_true c53
        clear c53
        by_cases c54 : t308 ≤ (a0.size : Int)
        · rw [if_pos c54] at H
          have c54b0 : decide (t308 ≤ (a0.size : Int)) = true := decide_eq_true c54
          clear c54
          by_cases c55 : t307 = 40
          · rw [if_pos c55] at H
            have c55b0 : (t307 == 40) = true := beq_iff_eq.mpr c55
            have c55b1 : (t307 != 40) = false := bne_eq_false_iff_eq.mpr c55
            clear c55
            by_cases c56 : t308 < (a0.size : Int)
            · rw [if_pos c56] at H
              have c56b0 : decide (t308 < (a0.size : Int)) = true := decide_eq_true c56
              clear c56
              by_cases c57 : t308 = 0
              · rw [if_pos c57] at H
                have c57b0 : (t308 == 0) = true := beq_iff_eq.mpr c57
                have c57b1 : (t308 != 0) = false := bne_eq_false_iff_eq.mpr c57
                clear c57
                obtain rfl := Option.some.inj H
                go_enter Tryd.func8, Tryd.ntmps8
                go_wp2_with (first | (go_at_call 11; (with_reducible refine (whittlelaw4_able.calls k  true _ (LaidG.below HGL.out (by repeat (first | (with_reducible first | exact HB.out | apply below_alloc | apply pw_below_drewN | apply below_drew1) | exact HB.out))) A2.out).mono ?_); rintro e w58 ⟨rfl, hb⟩; have n0_ := Aside0.mk (below_step (by repeat (first | (with_reducible first | exact HB.out | apply below_alloc | apply pw_below_drewN | apply below_drew1) | exact HB.out)) hb); clear HB; have HB := n0_; clear n0_; (try clear hb); (try clear hb2); (try clear hk); (try clear hi)) | (go_at_call 9; (with_reducible refine (lex_Scan.calls k a0 t306 t307 t308 _ (LaidG.below HGL.out (by repeat (first | (with_reducible first | exact HB.out | apply below_alloc | apply pw_below_drewN | apply below_drew1) | exact HB.out))) A4.out).mono ?_); rintro e w59 ⟨v309, rfl, ho0, hb⟩; have n0_ := Aside0.mk (Kd.R_lower ho0 (below_size (by repeat (first | (with_reducible first | exact HB.out | apply below_alloc | apply pw_below_drewN | apply below_drew1) | exact HB.out)))); have n1_ := Aside0.mk (below_step (by repeat (first | (with_reducible first | exact HB.out | apply below_alloc | apply pw_below_drewN | apply below_drew1) | exact HB.out)) hb); clear HB; have HO310 := n0_; have HB := n1_; clear n0_ n1_; (try clear hb); (try clear hb2); (try clear hk); (try clear hi); (try clear ho0)))
                repeat (go_quiet (first | (go_at_call 11; (with_reducible refine (whittlelaw4_able.calls k  true _ (LaidG.below HGL.out (by repeat (first | (with_reducible first | exact HB.out | apply below_alloc | apply pw_below_drewN | apply below_drew1) | exact HB.out))) A2.out).mono ?_); rintro e w58 ⟨rfl, hb⟩; have n0_ := Aside0.mk (below_step (by repeat (first | (with_reducible first | exact HB.out | apply below_alloc | apply pw_below_drewN | apply below_drew1) | exact HB.out)) hb); clear HB; have HB := n0_; clear n0_; (try clear hb); (try clear hb2); (try clear hk); (try clear hi)) | (go_at_call 9; (with_reducible refine (lex_Scan.calls k a0 t306 t307 t308 _ (LaidG.below HGL.out (by repeat (first | (with_reducible first | exact HB.out | apply below_alloc | apply pw_below_drewN | apply below_drew1) | exact HB.out))) A4.out).mono ?_); rintro e w59 ⟨v309, rfl, ho0, hb⟩; have n0_ := Aside0.mk (Kd.R_lower ho0 (below_size (by repeat (first | (with_reducible first | exact HB.out | apply below_alloc | apply pw_below_drewN | apply below_drew1) | exact HB.out)))); have n1_ := Aside0.mk (below_step (by repeat (first | (with_reducible first | exact HB.out | apply below_alloc | apply pw_below_drewN | apply below_drew1) | exact HB.out)) hb); clear HB; have HO310 := n0_; have HB := n1_; clear n0_ n1_; (try clear hb); (try clear hb2); (try clear hk); (try clear hi); (try clear ho0))); try go_wp2_with (first | (go_at_call 11; (with_reducible refine (whittlelaw4_able.calls k  true _ (LaidG.below HGL.out (by repeat (first | (with_reducible first | exact HB.out | apply below_alloc | apply pw_below_drewN | apply below_drew1) | exact HB.out))) A2.out).mono ?_); rintro e w58 ⟨rfl, hb⟩; have n0_ := Aside0.mk (below_step (by repeat (first | (with_reducible first | exact HB.out | apply below_alloc | apply pw_below_drewN | apply below_drew1) | exact HB.out)) hb); clear HB; have HB := n0_; clear n0_; (try clear hb); (try clear hb2); (try clear hk); (try clear hi)) | (go_at_call 9; (with_reducible refine (lex_Scan.calls k a0 t306 t307 t308 _ (LaidG.below HGL.out (by repeat (first | (with_reducible first | exact HB.out | apply below_alloc | apply pw_below_drewN | apply below_drew1) | exact HB.out))) A4.out).mono ?_); rintro e w59 ⟨v309, rfl, ho0, hb⟩; have n0_ := Aside0.mk (Kd.R_lower ho0 (below_size (by repeat (first | (with_reducible first | exact HB.out | apply below_alloc | apply pw_below_drewN | apply below_drew1) | exact HB.out)))); have n1_ := Aside0.mk (below_step (by repeat (first | (with_reducible first | exact HB.out | apply below_alloc | apply pw_below_drewN | apply below_drew1) | exact HB.out)) hb); clear HB; have HO310 := n0_; have HB := n1_; clear n0_ n1_; (try clear hb); (try clear hb2); (try clear hk); (try clear hi); (try clear ho0))))
                go_ret
                exact ⟨by first | rfl | (simp [errW_none, errW_some] <;> rfl) | (simp [*, errW_none, errW_some] <;> rfl), by repeat (first | (with_reducible first | exact HB.out | apply below_alloc | apply pw_below_drewN | apply below_drew1) | exact HB.out)⟩
              · rw [if_neg c57] at H
                have c57b0 : (t308 == 0) = false := beq_eq_false_iff_ne.mpr c57
                have c57b1 : (t308 != 0) = true := bne_iff_ne.mpr c57
                replace H := Option.bind_eq_some_iff.mp H
                obtain ⟨t311, A600, H⟩ := H
                replace H : (some t311) = some r := H
                have A60 := Aside0.mk A600
                clear A600
                obtain rfl := Option.some.inj H
                go_enter Tryd.func8, Tryd.ntmps8
                go_wp2_with (first | (go_at_call 11; (with_reducible refine (whittlelaw4_able.calls k  true _ (LaidG.below HGL.out (by repeat (first | (with_reducible first | exact HB.out | apply below_alloc | apply pw_below_drewN | apply below_drew1) | exact HB.out))) A2.out).mono ?_); rintro e w61 ⟨rfl, hb⟩; have n0_ := Aside0.mk (below_step (by repeat (first | (with_reducible first | exact HB.out | apply below_alloc | apply pw_below_drewN | apply below_drew1) | exact HB.out)) hb); clear HB; have HB := n0_; clear n0_; (try clear hb); (try clear hb2); (try clear hk); (try clear hi)) | (go_at_call 9; (with_reducible refine (lex_Scan.calls k a0 t306 t307 t308 _ (LaidG.below HGL.out (by repeat (first | (with_reducible first | exact HB.out | apply below_alloc | apply pw_below_drewN | apply below_drew1) | exact HB.out))) A4.out).mono ?_); rintro e w62 ⟨v309, rfl, ho0, hb⟩; have n0_ := Aside0.mk (Kd.R_lower ho0 (below_size (by repeat (first | (with_reducible first | exact HB.out | apply below_alloc | apply pw_below_drewN | apply below_drew1) | exact HB.out)))); have n1_ := Aside0.mk (below_step (by repeat (first | (with_reducible first | exact HB.out | apply below_alloc | apply pw_below_drewN | apply below_drew1) | exact HB.out)) hb); clear HB; have HO310 := n0_; have HB := n1_; clear n0_ n1_; (try clear hb); (try clear hb2); (try clear hk); (try clear hi); (try clear ho0)) | (go_at_call 17; (with_reducible refine (whittlelaw4_cut.calls k a0 t308 t311 _ (LaidG.below HGL.out (by repeat (first | (with_reducible first | exact HB.out | apply below_alloc | apply pw_below_drewN | apply below_drew1) | exact HB.out))) A60.out).mono ?_); rintro e w63 ⟨rfl, hb⟩; have n0_ := Aside0.mk (Kd.R_below (by (with_reducible repeat (first | apply Kd.R_alloc | apply Kd.R_drewN | apply Kd.R_drew)); exact HO310.out) hb); have n1_ := Aside0.mk (below_step (by repeat (first | (with_reducible first | exact HB.out | apply below_alloc | apply pw_below_drewN | apply below_drew1) | exact HB.out)) hb); clear HO310; clear HB; have HO310 := n0_; have HB := n1_; clear n0_ n1_; (try clear hb); (try clear hb2); (try clear hk); (try clear hi)))
                repeat (go_quiet (first | (go_at_call 11; (with_reducible refine (whittlelaw4_able.calls k  true _ (LaidG.below HGL.out (by repeat (first | (with_reducible first | exact HB.out | apply below_alloc | apply pw_below_drewN | apply below_drew1) | exact HB.out))) A2.out).mono ?_); rintro e w61 ⟨rfl, hb⟩; have n0_ := Aside0.mk (below_step (by repeat (first | (with_reducible first | exact HB.out | apply below_alloc | apply pw_below_drewN | apply below_drew1) | exact HB.out)) hb); clear HB; have HB := n0_; clear n0_; (try clear hb); (try clear hb2); (try clear hk); (try clear hi)) | (go_at_call 9; (with_reducible refine (lex_Scan.calls k a0 t306 t307 t308 _ (LaidG.below HGL.out (by repeat (first | (with_reducible first | exact HB.out | apply below_alloc | apply pw_below_drewN | apply below_drew1) | exact HB.out))) A4.out).mono ?_); rintro e w62 ⟨v309, rfl, ho0, hb⟩; have n0_ := Aside0.mk (Kd.R_lower ho0 (below_size (by repeat (first | (with_reducible first | exact HB.out | apply below_alloc | apply pw_below_drewN | apply below_drew1) | exact HB.out)))); have n1_ := Aside0.mk (below_step (by repeat (first | (with_reducible first | exact HB.out | apply below_alloc | apply pw_below_drewN | apply below_drew1) | exact HB.out)) hb); clear HB; have HO310 := n0_; have HB := n1_; clear n0_ n1_; (try clear hb); (try clear hb2); (try clear hk); (try clear hi); (try clear ho0)) | (go_at_call 17; (with_reducible refine (whittlelaw4_cut.calls k a0 t308 t311 _ (LaidG.below HGL.out (by repeat (first | (with_reducible first | exact HB.out | apply below_alloc | apply pw_below_drewN | apply below_drew1) | exact HB.out))) A60.out).mono ?_); rintro e w63 ⟨rfl, hb⟩; have n0_ := Aside0.mk (Kd.R_below (by (with_reducible repeat (first | apply Kd.R_alloc | apply Kd.R_drewN | apply Kd.R_drew)); exact HO310.out) hb); have n1_ := Aside0.mk (below_step (by repeat (first | (with_reducible first | exact HB.out | apply below_alloc | apply pw_below_drewN | apply below_drew1) | exact HB.out)) hb); clear HO310; clear HB; have HO310 := n0_; have HB := n1_; clear n0_ n1_; (try clear hb); (try clear hb2); (try clear hk); (try clear hi))); try go_wp2_with (first | (go_at_call 11; (with_reducible refine (whittlelaw4_able.calls k  true _ (LaidG.below HGL.out (by repeat (first | (with_reducible first | exact HB.out | apply below_alloc | apply pw_below_drewN | apply below_drew1) | exact HB.out))) A2.out).mono ?_); rintro e w61 ⟨rfl, hb⟩; have n0_ := Aside0.mk (below_step (by repeat (first | (with_reducible first | exact HB.out | apply below_alloc | apply pw_below_drewN | apply below_drew1) | exact HB.out)) hb); clear HB; have HB := n0_; clear n0_; (try clear hb); (try clear hb2); (try clear hk); (try clear hi)) | (go_at_call 9; (with_reducible refine (lex_Scan.calls k a0 t306 t307 t308 _ (LaidG.below HGL.out (by repeat (first | (with_reducible first | exact HB.out | apply below_alloc | apply pw_below_drewN | apply below_drew1) | exact HB.out))) A4.out).mono ?_); rintro e w62 ⟨v309, rfl, ho0, hb⟩; have n0_ := Aside0.mk (Kd.R_lower ho0 (below_size (by repeat (first | (with_reducible first | exact HB.out | apply below_alloc | apply pw_below_drewN | apply below_drew1) | exact HB.out)))); have n1_ := Aside0.mk (below_step (by repeat (first | (with_reducible first | exact HB.out | apply below_alloc | apply pw_below_drewN | apply below_drew1) | exact HB.out)) hb); clear HB; have HO310 := n0_; have HB := n1_; clear n0_ n1_; (try clear hb); (try clear hb2); (try clear hk); (try clear hi); (try clear ho0)) | (go_at_call 17; (with_reducible refine (whittlelaw4_cut.calls k a0 t308 t311 _ (LaidG.below HGL.out (by repeat (first | (with_reducible first | exact HB.out | apply below_alloc | apply pw_below_drewN | apply below_drew1) | exact HB.out))) A60.out).mono ?_); rintro e w63 ⟨rfl, hb⟩; have n0_ := Aside0.mk (Kd.R_below (by (with_reducible repeat (first | apply Kd.R_alloc | apply Kd.R_drewN | apply Kd.R_drew)); exact HO310.out) hb); have n1_ := Aside0.mk (below_step (by repeat (first | (with_reducible first | exact HB.out | apply below_alloc | apply pw_below_drewN | apply below_drew1) | exact HB.out)) hb); clear HO310; clear HB; have HO310 := n0_; have HB := n1_; clear n0_ n1_; (try clear hb); (try clear hb2); (try clear hk); (try clear hi))))
                go_ret
                exact ⟨by first | rfl | (simp [errW_none, errW_some] <;> rfl) | (simp [*, errW_none, errW_some] <;> rfl), by repeat (first | (with_reducible first | exact HB.out | apply below_alloc | apply pw_below_drewN | apply below_drew1) | exact HB.out)⟩
            · rw [if_neg c56] at H
              have c56b0 : decide (t308 < (a0.size : Int)) = false := decide_eq_false c56
              clear c56
              obtain rfl := Option.some.inj H
              go_enter Tryd.func8, Tryd.ntmps8
              go_wp2_with (first | (go_at_call 11; (with_reducible refine (whittlelaw4_able.calls k  true _ (LaidG.below HGL.out (by repeat (first | (with_reducible first | exact HB.out | apply below_alloc | apply pw_below_drewN | apply below_drew1) | exact HB.out))) A2.out).mono ?_); rintro e w64 ⟨rfl, hb⟩; have n0_ := Aside0.mk (below_step (by repeat (first | (with_reducible first | exact HB.out | apply below_alloc | apply pw_below_drewN | apply below_drew1) | exact HB.out)) hb); clear HB; have HB := n0_; clear n0_; (try clear hb); (try clear hb2); (try clear hk); (try clear hi)) | (go_at_call 9; (with_reducible refine (lex_Scan.calls k a0 t306 t307 t308 _ (LaidG.below HGL.out (by repeat (first | (with_reducible first | exact HB.out | apply below_alloc | apply pw_below_drewN | apply below_drew1) | exact HB.out))) A4.out).mono ?_); rintro e w65 ⟨v309, rfl, ho0, hb⟩; have n0_ := Aside0.mk (Kd.R_lower ho0 (below_size (by repeat (first | (with_reducible first | exact HB.out | apply below_alloc | apply pw_below_drewN | apply below_drew1) | exact HB.out)))); have n1_ := Aside0.mk (below_step (by repeat (first | (with_reducible first | exact HB.out | apply below_alloc | apply pw_below_drewN | apply below_drew1) | exact HB.out)) hb); clear HB; have HO310 := n0_; have HB := n1_; clear n0_ n1_; (try clear hb); (try clear hb2); (try clear hk); (try clear hi); (try clear ho0)))
              repeat (go_quiet (first | (go_at_call 11; (with_reducible refine (whittlelaw4_able.calls k  true _ (LaidG.below HGL.out (by repeat (first | (with_reducible first | exact HB.out | apply below_alloc | apply pw_below_drewN | apply below_drew1) | exact HB.out))) A2.out).mono ?_); rintro e w64 ⟨rfl, hb⟩; have n0_ := Aside0.mk (below_step (by repeat (first | (with_reducible first | exact HB.out | apply below_alloc | apply pw_below_drewN | apply below_drew1) | exact HB.out)) hb); clear HB; have HB := n0_; clear n0_; (try clear hb); (try clear hb2); (try clear hk); (try clear hi)) | (go_at_call 9; (with_reducible refine (lex_Scan.calls k a0 t306 t307 t308 _ (LaidG.below HGL.out (by repeat (first | (with_reducible first | exact HB.out | apply below_alloc | apply pw_below_drewN | apply below_drew1) | exact HB.out))) A4.out).mono ?_); rintro e w65 ⟨v309, rfl, ho0, hb⟩; have n0_ := Aside0.mk (Kd.R_lower ho0 (below_size (by repeat (first | (with_reducible first | exact HB.out | apply below_alloc | apply pw_below_drewN | apply below_drew1) | exact HB.out)))); have n1_ := Aside0.mk (below_step (by repeat (first | (with_reducible first | exact HB.out | apply below_alloc | apply pw_below_drewN | apply below_drew1) | exact HB.out)) hb); clear HB; have HO310 := n0_; have HB := n1_; clear n0_ n1_; (try clear hb); (try clear hb2); (try clear hk); (try clear hi); (try clear ho0))); try go_wp2_with (first | (go_at_call 11; (with_reducible refine (whittlelaw4_able.calls k  true _ (LaidG.below HGL.out (by repeat (first | (with_reducible first | exact HB.out | apply below_alloc | apply pw_below_drewN | apply below_drew1) | exact HB.out))) A2.out).mono ?_); rintro e w64 ⟨rfl, hb⟩; have n0_ := Aside0.mk (below_step (by repeat (first | (with_reducible first | exact HB.out | apply below_alloc | apply pw_below_drewN | apply below_drew1) | exact HB.out)) hb); clear HB; have HB := n0_; clear n0_; (try clear hb); (try clear hb2); (try clear hk); (try clear hi)) | (go_at_call 9; (with_reducible refine (lex_Scan.calls k a0 t306 t307 t308 _ (LaidG.below HGL.out (by repeat (first | (with_reducible first | exact HB.out | apply below_alloc | apply pw_below_drewN | apply below_drew1) | exact HB.out))) A4.out).mono ?_); rintro e w65 ⟨v309, rfl, ho0, hb⟩; have n0_ := Aside0.mk (Kd.R_lower ho0 (below_size (by repeat (first | (with_reducible first | exact HB.out | apply below_alloc | apply pw_below_drewN | apply below_drew1) | exact HB.out)))); have n1_ := Aside0.mk (below_step (by repeat (first | (with_reducible first | exact HB.out | apply below_alloc | apply pw_below_drewN | apply below_drew1) | exact HB.out)) hb); clear HB; have HO310 := n0_; have HB := n1_; clear n0_ n1_; (try clear hb); (try clear hb2); (try clear hk); (try clear hi); (try clear ho0))))
              go_ret
              exact ⟨by first | rfl | (simp [errW_none, errW_some] <;> rfl) | (simp [*, errW_none, errW_some] <;> rfl), by repeat (first | (with_reducible first | exact HB.out | apply below_alloc | apply pw_below_drewN | apply below_drew1) | exact HB.out)⟩
          · rw [if_neg c55] at H
            have c55b0 : (t307 == 40) = false := beq_eq_false_iff_ne.mpr c55
            have c55b1 : (t307 != 40) = true := bne_iff_ne.mpr c55
            obtain rfl := Option.some.inj H
            go_enter Tryd.func8, Tryd.ntmps8
            go_wp2_with (first | (go_at_call 11; (with_reducible refine (whittlelaw4_able.calls k  true _ (LaidG.below HGL.out (by repeat (first | (with_reducible first | exact HB.out | apply below_alloc | apply pw_below_drewN | apply below_drew1) | exact HB.out))) A2.out).mono ?_); rintro e w66 ⟨rfl, hb⟩; have n0_ := Aside0.mk (below_step (by repeat (first | (with_reducible first | exact HB.out | apply below_alloc | apply pw_below_drewN | apply below_drew1) | exact HB.out)) hb); clear HB; have HB := n0_; clear n0_; (try clear hb); (try clear hb2); (try clear hk); (try clear hi)) | (go_at_call 9; (with_reducible refine (lex_Scan.calls k a0 t306 t307 t308 _ (LaidG.below HGL.out (by repeat (first | (with_reducible first | exact HB.out | apply below_alloc | apply pw_below_drewN | apply below_drew1) | exact HB.out))) A4.out).mono ?_); rintro e w67 ⟨v309, rfl, ho0, hb⟩; have n0_ := Aside0.mk (Kd.R_lower ho0 (below_size (by repeat (first | (with_reducible first | exact HB.out | apply below_alloc | apply pw_below_drewN | apply below_drew1) | exact HB.out)))); have n1_ := Aside0.mk (below_step (by repeat (first | (with_reducible first | exact HB.out | apply below_alloc | apply pw_below_drewN | apply below_drew1) | exact HB.out)) hb); clear HB; have HO310 := n0_; have HB := n1_; clear n0_ n1_; (try clear hb); (try clear hb2); (try clear hk); (try clear hi); (try clear ho0)))
            repeat (go_quiet (first | (go_at_call 11; (with_reducible refine (whittlelaw4_able.calls k  true _ (LaidG.below HGL.out (by repeat (first | (with_reducible first | exact HB.out | apply below_alloc | apply pw_below_drewN | apply below_drew1) | exact HB.out))) A2.out).mono ?_); rintro e w66 ⟨rfl, hb⟩; have n0_ := Aside0.mk (below_step (by repeat (first | (with_reducible first | exact HB.out | apply below_alloc | apply pw_below_drewN | apply below_drew1) | exact HB.out)) hb); clear HB; have HB := n0_; clear n0_; (try clear hb); (try clear hb2); (try clear hk); (try clear hi)) | (go_at_call 9; (with_reducible refine (lex_Scan.calls k a0 t306 t307 t308 _ (LaidG.below HGL.out (by repeat (first | (with_reducible first | exact HB.out | apply below_alloc | apply pw_below_drewN | apply below_drew1) | exact HB.out))) A4.out).mono ?_); rintro e w67 ⟨v309, rfl, ho0, hb⟩; have n0_ := Aside0.mk (Kd.R_lower ho0 (below_size (by repeat (first | (with_reducible first | exact HB.out | apply below_alloc | apply pw_below_drewN | apply below_drew1) | exact HB.out)))); have n1_ := Aside0.mk (below_step (by repeat (first | (with_reducible first | exact HB.out | apply below_alloc | apply pw_below_drewN | apply below_drew1) | exact HB.out)) hb); clear HB; have HO310 := n0_; have HB := n1_; clear n0_ n1_; (try clear hb); (try clear hb2); (try clear hk); (try clear hi); (try clear ho0))); try go_wp2_with (first | (go_at_call 11; (with_reducible refine (whittlelaw4_able.calls k  true _ (LaidG.below HGL.out (by repeat (first | (with_reducible first | exact HB.out | apply below_alloc | apply pw_below_drewN | apply below_drew1) | exact HB.out))) A2.out).mono ?_); rintro e w66 ⟨rfl, hb⟩; have n0_ := Aside0.mk (below_step (by repeat (first | (with_reducible first | exact HB.out | apply below_alloc | apply pw_below_drewN | apply below_drew1) | exact HB.out)) hb); clear HB; have HB := n0_; clear n0_; (try clear hb); (try clear hb2); (try clear hk); (try clear hi)) | (go_at_call 9; (with_reducible refine (lex_Scan.calls k a0 t306 t307 t308 _ (LaidG.below HGL.out (by repeat (first | (with_reducible first | exact HB.out | apply below_alloc | apply pw_below_drewN | apply below_drew1) | exact HB.out))) A4.out).mono ?_); rintro e w67 ⟨v309, rfl, ho0, hb⟩; have n0_ := Aside0.mk (Kd.R_lower ho0 (below_size (by repeat (first | (with_reducible first | exact HB.out | apply below_alloc | apply pw_below_drewN | apply below_drew1) | exact HB.out)))); have n1_ := Aside0.mk (below_step (by repeat (first | (with_reducible first | exact HB.out | apply below_alloc | apply pw_below_drewN | apply below_drew1) | exact HB.out)) hb); clear HB; have HO310 := n0_; have HB := n1_; clear n0_ n1_; (try clear hb); (try clear hb2); (try clear hk); (try clear hi); (try clear ho0))))
            go_ret
            exact ⟨by first | rfl | (simp [errW_none, errW_some] <;> rfl) | (simp [*, errW_none, errW_some] <;> rfl), by repeat (first | (with_reducible first | exact HB.out | apply below_alloc | apply pw_below_drewN | apply below_drew1) | exact HB.out)⟩
        · rw [if_neg c54] at H
          have c54b0 : decide (t308 ≤ (a0.size : Int)) = false := decide_eq_false c54
          clear c54
          obtain rfl := Option.some.inj H
          go_enter Tryd.func8, Tryd.ntmps8
          go_wp2_with (first | (go_at_call 11; (with_reducible refine (whittlelaw4_able.calls k  true _ (LaidG.below HGL.out (by repeat (first | (with_reducible first | exact HB.out | apply below_alloc | apply pw_below_drewN | apply below_drew1) | exact HB.out))) A2.out).mono ?_); rintro e w68 ⟨rfl, hb⟩; have n0_ := Aside0.mk (below_step (by repeat (first | (with_reducible first | exact HB.out | apply below_alloc | apply pw_below_drewN | apply below_drew1) | exact HB.out)) hb); clear HB; have HB := n0_; clear n0_; (try clear hb); (try clear hb2); (try clear hk); (try clear hi)) | (go_at_call 9; (with_reducible refine (lex_Scan.calls k a0 t306 t307 t308 _ (LaidG.below HGL.out (by repeat (first | (with_reducible first | exact HB.out | apply below_alloc | apply pw_below_drewN | apply below_drew1) | exact HB.out))) A4.out).mono ?_); rintro e w69 ⟨v309, rfl, ho0, hb⟩; have n0_ := Aside0.mk (Kd.R_lower ho0 (below_size (by repeat (first | (with_reducible first | exact HB.out | apply below_alloc | apply pw_below_drewN | apply below_drew1) | exact HB.out)))); have n1_ := Aside0.mk (below_step (by repeat (first | (with_reducible first | exact HB.out | apply below_alloc | apply pw_below_drewN | apply below_drew1) | exact HB.out)) hb); clear HB; have HO310 := n0_; have HB := n1_; clear n0_ n1_; (try clear hb); (try clear hb2); (try clear hk); (try clear hi); (try clear ho0)))
          repeat (go_quiet (first | (go_at_call 11; (with_reducible refine (whittlelaw4_able.calls k  true _ (LaidG.below HGL.out (by repeat (first | (with_reducible first | exact HB.out | apply below_alloc | apply pw_below_drewN | apply below_drew1) | exact HB.out))) A2.out).mono ?_); rintro e w68 ⟨rfl, hb⟩; have n0_ := Aside0.mk (below_step (by repeat (first | (with_reducible first | exact HB.out | apply below_alloc | apply pw_below_drewN | apply below_drew1) | exact HB.out)) hb); clear HB; have HB := n0_; clear n0_; (try clear hb); (try clear hb2); (try clear hk); (try clear hi)) | (go_at_call 9; (with_reducible refine (lex_Scan.calls k a0 t306 t307 t308 _ (LaidG.below HGL.out (by repeat (first | (with_reducible first | exact HB.out | apply below_alloc | apply pw_below_drewN | apply below_drew1) | exact HB.out))) A4.out).mono ?_); rintro e w69 ⟨v309, rfl, ho0, hb⟩; have n0_ := Aside0.mk (Kd.R_lower ho0 (below_size (by repeat (first | (with_reducible first | exact HB.out | apply below_alloc | apply pw_below_drewN | apply below_drew1) | exact HB.out)))); have n1_ := Aside0.mk (below_step (by repeat (first | (with_reducible first | exact HB.out | apply below_alloc | apply pw_below_drewN | apply below_drew1) | exact HB.out)) hb); clear HB; have HO310 := n0_; have HB := n1_; clear n0_ n1_; (try clear hb); (try clear hb2); (try clear hk); (try clear hi); (try clear ho0))); try go_wp2_with (first | (go_at_call 11; (with_reducible refine (whittlelaw4_able.calls k  true _ (LaidG.below HGL.out (by repeat (first | (with_reducible first | exact HB.out | apply below_alloc | apply pw_below_drewN | apply below_drew1) | exact HB.out))) A2.out).mono ?_); rintro e w68 ⟨rfl, hb⟩; have n0_ := Aside0.mk (below_step (by repeat (first | (with_reducible first | exact HB.out | apply below_alloc | apply pw_below_drewN | apply below_drew1) | exact HB.out)) hb); clear HB; have HB := n0_; clear n0_; (try clear hb); (try clear hb2); (try clear hk); (try clear hi)) | (go_at_call 9; (with_reducible refine (lex_Scan.calls k a0 t306 t307 t308 _ (LaidG.below HGL.out (by repeat (first | (with_reducible first | exact HB.out | apply below_alloc | apply pw_below_drewN | apply below_drew1) | exact HB.out))) A4.out).mono ?_); rintro e w69 ⟨v309, rfl, ho0, hb⟩; have n0_ := Aside0.mk (Kd.R_lower ho0 (below_size (by repeat (first | (with_reducible first | exact HB.out | apply below_alloc | apply pw_below_drewN | apply below_drew1) | exact HB.out)))); have n1_ := Aside0.mk (below_step (by repeat (first | (with_reducible first | exact HB.out | apply below_alloc | apply pw_below_drewN | apply below_drew1) | exact HB.out)) hb); clear HB; have HO310 := n0_; have HB := n1_; clear n0_ n1_; (try clear hb); (try clear hb2); (try clear hk); (try clear hi); (try clear ho0))))
          go_ret
          exact ⟨by first | rfl | (simp [errW_none, errW_some] <;> rfl) | (simp [*, errW_none, errW_some] <;> rfl), by repeat (first | (with_reducible first | exact HB.out | apply below_alloc | apply pw_below_drewN | apply below_drew1) | exact HB.out)⟩
      · rw [if_neg c53] at H
        have c53b0 : decide (0 ≤ t308) = false := decide_eq_false c53
        clear c53
        obtain rfl := Option.some.inj H
        go_enter Tryd.func8, Tryd.ntmps8
        go_wp2_with (first | (go_at_call 11; (with_reducible refine (whittlelaw4_able.calls k  true _ (LaidG.below HGL.out (by repeat (first | (with_reducible first | exact HB.out | apply below_alloc | apply pw_below_drewN | apply below_drew1) | exact HB.out))) A2.out).mono ?_); rintro e w70 ⟨rfl, hb⟩; have n0_ := Aside0.mk (below_step (by repeat (first | (with_reducible first | exact HB.out | apply below_alloc | apply pw_below_drewN | apply below_drew1) | exact HB.out)) hb); clear HB; have HB := n0_; clear n0_; (try clear hb); (try clear hb2); (try clear hk); (try clear hi)) | (go_at_call 9; (with_reducible refine (lex_Scan.calls k a0 t306 t307 t308 _ (LaidG.below HGL.out (by repeat (first | (with_reducible first | exact HB.out | apply below_alloc | apply pw_below_drewN | apply below_drew1) | exact HB.out))) A4.out).mono ?_); rintro e w71 ⟨v309, rfl, ho0, hb⟩; have n0_ := Aside0.mk (Kd.R_lower ho0 (below_size (by repeat (first | (with_reducible first | exact HB.out | apply below_alloc | apply pw_below_drewN | apply below_drew1) | exact HB.out)))); have n1_ := Aside0.mk (below_step (by repeat (first | (with_reducible first | exact HB.out | apply below_alloc | apply pw_below_drewN | apply below_drew1) | exact HB.out)) hb); clear HB; have HO310 := n0_; have HB := n1_; clear n0_ n1_; (try clear hb); (try clear hb2); (try clear hk); (try clear hi); (try clear ho0)))
        repeat (go_quiet (first | (go_at_call 11; (with_reducible refine (whittlelaw4_able.calls k  true _ (LaidG.below HGL.out (by repeat (first | (with_reducible first | exact HB.out | apply below_alloc | apply pw_below_drewN | apply below_drew1) | exact HB.out))) A2.out).mono ?_); rintro e w70 ⟨rfl, hb⟩; have n0_ := Aside0.mk (below_step (by repeat (first | (with_reducible first | exact HB.out | apply below_alloc | apply pw_below_drewN | apply below_drew1) | exact HB.out)) hb); clear HB; have HB := n0_; clear n0_; (try clear hb); (try clear hb2); (try clear hk); (try clear hi)) | (go_at_call 9; (with_reducible refine (lex_Scan.calls k a0 t306 t307 t308 _ (LaidG.below HGL.out (by repeat (first | (with_reducible first | exact HB.out | apply below_alloc | apply pw_below_drewN | apply below_drew1) | exact HB.out))) A4.out).mono ?_); rintro e w71 ⟨v309, rfl, ho0, hb⟩; have n0_ := Aside0.mk (Kd.R_lower ho0 (below_size (by repeat (first | (with_reducible first | exact HB.out | apply below_alloc | apply pw_below_drewN | apply below_drew1) | exact HB.out)))); have n1_ := Aside0.mk (below_step (by repeat (first | (with_reducible first | exact HB.out | apply below_alloc | apply pw_below_drewN | apply below_drew1) | exact HB.out)) hb); clear HB; have HO310 := n0_; have HB := n1_; clear n0_ n1_; (try clear hb); (try clear hb2); (try clear hk); (try clear hi); (try clear ho0))); try go_wp2_with (first | (go_at_call 11; (with_reducible refine (whittlelaw4_able.calls k  true _ (LaidG.below HGL.out (by repeat (first | (with_reducible first | exact HB.out | apply below_alloc | apply pw_below_drewN | apply below_drew1) | exact HB.out))) A2.out).mono ?_); rintro e w70 ⟨rfl, hb⟩; have n0_ := Aside0.mk (below_step (by repeat (first | (with_reducible first | exact HB.out | apply below_alloc | apply pw_below_drewN | apply below_drew1) | exact HB.out)) hb); clear HB; have HB := n0_; clear n0_; (try clear hb); (try clear hb2); (try clear hk); (try clear hi)) | (go_at_call 9; (with_reducible refine (lex_Scan.calls k a0 t306 t307 t308 _ (LaidG.below HGL.out (by repeat (first | (with_reducible first | exact HB.out | apply below_alloc | apply pw_below_drewN | apply below_drew1) | exact HB.out))) A4.out).mono ?_); rintro e w71 ⟨v309, rfl, ho0, hb⟩; have n0_ := Aside0.mk (Kd.R_lower ho0 (below_size (by repeat (first | (with_reducible first | exact HB.out | apply below_alloc | apply pw_below_drewN | apply below_drew1) | exact HB.out)))); have n1_ := Aside0.mk (below_step (by repeat (first | (with_reducible first | exact HB.out | apply below_alloc | apply pw_below_drewN | apply below_drew1) | exact HB.out)) hb); clear HB; have HO310 := n0_; have HB := n1_; clear n0_ n1_; (try clear hb); (try clear hb2); (try clear hk); (try clear hi); (try clear ho0))))
        go_ret
        exact ⟨by first | rfl | (simp [errW_none, errW_some] <;> rfl) | (simp [*, errW_none, errW_some] <;> rfl), by repeat (first | (with_reducible first | exact HB.out | apply below_alloc | apply pw_below_drewN | apply below_drew1) | exact HB.out)⟩
  · replace c3 := Bool.eq_false_iff.mpr c3
    subst c3
    have H1 : (some false) = some r := by rw [if_neg (show ¬ (false = true) by decide)] at H; exact H
    clear H
    have H := H1
    clear H1
    obtain rfl := Option.some.inj H
    go_enter Tryd.func8, Tryd.ntmps8
    go_wp2_with (first | (go_at_call 11; (with_reducible refine (whittlelaw4_able.calls k  false _ (LaidG.below HGL.out (by repeat (first | (with_reducible first | exact HB.out | apply below_alloc | apply pw_below_drewN | apply below_drew1) | exact HB.out))) A2.out).mono ?_); rintro e w72 ⟨rfl, hb⟩; have n0_ := Aside0.mk (below_step (by repeat (first | (with_reducible first | exact HB.out | apply below_alloc | apply pw_below_drewN | apply below_drew1) | exact HB.out)) hb); clear HB; have HB := n0_; clear n0_; (try clear hb); (try clear hb2); (try clear hk); (try clear hi)))
    repeat (go_quiet (first | (go_at_call 11; (with_reducible refine (whittlelaw4_able.calls k  false _ (LaidG.below HGL.out (by repeat (first | (with_reducible first | exact HB.out | apply below_alloc | apply pw_below_drewN | apply below_drew1) | exact HB.out))) A2.out).mono ?_); rintro e w72 ⟨rfl, hb⟩; have n0_ := Aside0.mk (below_step (by repeat (first | (with_reducible first | exact HB.out | apply below_alloc | apply pw_below_drewN | apply below_drew1) | exact HB.out)) hb); clear HB; have HB := n0_; clear n0_; (try clear hb); (try clear hb2); (try clear hk); (try clear hi))); try go_wp2_with (first | (go_at_call 11; (with_reducible refine (whittlelaw4_able.calls k  false _ (LaidG.below HGL.out (by repeat (first | (with_reducible first | exact HB.out | apply below_alloc | apply pw_below_drewN | apply below_drew1) | exact HB.out))) A2.out).mono ?_); rintro e w72 ⟨rfl, hb⟩; have n0_ := Aside0.mk (below_step (by repeat (first | (with_reducible first | exact HB.out | apply below_alloc | apply pw_below_drewN | apply below_drew1) | exact HB.out)) hb); clear HB; have HB := n0_; clear n0_; (try clear hb); (try clear hb2); (try clear hk); (try clear hi))))
    go_ret
    exact ⟨by first | rfl | (simp [errW_none, errW_some] <;> rfl) | (simp [*, errW_none, errW_some] <;> rfl), by repeat (first | (with_reducible first | exact HB.out | apply below_alloc | apply pw_below_drewN | apply below_drew1) | exact HB.out)⟩

end Go.Proofs.YtceldhkfidmfkaaDoor.L
