-- by wprint.py, out of the translation
import Derived.Test.YtceldhkfidmfkaaDoorLx0
import Derived.Test.YtceldhkfidmfkaaDoorLx6
import Derived.Test.YtceldhkfidmfkaaDoorLx7
import Derived.Test.YtceldhkfidmfkaaDoorLx10
import Derived.Test.YtceldhkfidmfkaaDoorLx11
import Derived.Test.YtceldhkfidmfkaaDoorLaid
import Derived.Test.YtceldhkfidmfkaaDoorPlain
namespace Go.Proofs.YtceldhkfidmfkaaDoor.L
open Go.RowKit Go.Proofs.YtceldhkfidmfkaaDoorW.PrintWords Go.Proofs.YtceldhkfidmfkaaDoorW.PrintLast Go.Proofs.YtceldhkfidmfkaaDoorW.PrintMore
attribute [local go_sem] max2_int min2_int max_two min_two max_three min_three max_four min_four   -- for this text's walks alone
set_option linter.unusedVariables false
set_option linter.unusedSimpArgs false

/-! ### lex_next: function 18 -/
-- IMPORT Derived.Test.YtceldhkfidmfkaaDoorPlain
open Go.Proofs.YtceldhkfidmfkaaDoor.Plain

/-- The bytes that are a mark by themselves. -/
def singleL : List UInt8 := [43, 45, 42, 47, 94, 38, 37, 40, 41, 44, 58, 33, 61, 60, 62]
/-- A token of a kind and so many bytes; of none: the byte that begins no token. -/
def finN (a0 : ByteArray) (kd n : Int) : Option (Int × ByteArray × Int × Int × Int) :=
  if n = 0 then some (0, ⟨#[]⟩, 0, 0, 40) else if 0 ≤ n then if n ≤ (a0.size : Int) then some (kd, a0.extract 0 n.toNat, 0, n, 0) else none else none
/-- What stands at the head, its first byte told apart. -/
def nextC (k : Nat) (a0 : ByteArray) (c : Int) : Option (Int × ByteArray × Int × Int × Int) :=
  if dg c = true then finN a0 1 (numL a0.data.toList)
  else if c = 34 then (lex_quoted.f k a0).bind fun b => some (2, b.1, 0, b.2.1, b.2.2)
  else if (lt c || decide (c = 36)) = true then finN a0 3 (runL wd a0.data.toList)
  else if c = 35 then (lex_begins.f k a0 faultsB).bind fun t => finN a0 4 (t.size : Int)
  else (lex_begins.f k a0 pairsB).bind fun t => if (t.size : Int) = 0 then (if 0 ≤ Lib.indexByte singleL c.toNat.toUInt8 then finN a0 5 1 else finN a0 5 0) else finN a0 5 (t.size : Int)
def lex_next.f (k : Nat) (a0 : ByteArray) : Option (Int × ByteArray × Int × Int × Int) :=
  if 0 < a0.size then if a0.size ≤ 140737488351232 then nextC k a0 (bt a0 0) else none else none

theorem lex_next.mono : ∀ a0 k, LeO (lex_next.f k a0) (lex_next.f (k + 1) a0) := by
  intro a0 k
  unfold lex_next.f nextC
  repeat' first
      | (with_reducible exact LeO.refl _)
      | (with_reducible exact LeO.none _)
      | (with_reducible exact lex_quoted.mono _ _)
      | (with_reducible exact lex_begins.mono _ _ _)
      | (with_reducible refine LeO.ite ?_ ?_)
      | (with_reducible refine LeO.bind ?_ (fun _ => ?_))

theorem word_tests : Tests 30 wd := by
  intro c w h0 h1
  cases h1 : lt c with
  | true =>
    have hw : wd c = true := by simp [wd, h1]
    have HL := Aside0.mk (fun w => lex_letter.calls c true w (by rw [letter_some, h1]))
    rw [hw]
    clear hw h1
    go_enter Tryd.func30, Tryd.ntmps30
    go_wp2_with (go_at_call 28; refine (HL.out _).mono ?_; rintro e w' ⟨rfl, ⟨nd, rfl⟩⟩)
    go_ret
    exact ⟨rfl, by repeat (first | exact Drawn0.refl _ | apply Drawn0.step)⟩
  | false =>
    have HL := Aside0.mk (fun w => lex_letter.calls c false w (by rw [letter_some, h1]))
    cases h2 : dg c with
    | true =>
      have hw : wd c = true := by simp [wd, h2]
      have HD := Aside0.mk (fun w => lex_digit.calls c true w (by rw [digit_some, h2]))
      rw [hw]
      clear hw h1 h2
      go_enter Tryd.func30, Tryd.ntmps30
      go_wp2_with (first | (go_at_call 28; refine (HL.out _).mono ?_; rintro e w' ⟨rfl, ⟨nd, rfl⟩⟩) | (go_at_call 25; refine (HD.out _).mono ?_; rintro e w' ⟨rfl, ⟨nd, rfl⟩⟩))
      go_ret
      exact ⟨rfl, by repeat (first | exact Drawn0.refl _ | apply Drawn0.step)⟩
    | false =>
      have HD := Aside0.mk (fun w => lex_digit.calls c false w (by rw [digit_some, h2]))
      have hw : wd c = decide (c = 36) := by simp [wd, h1, h2]
      rw [hw]
      clear hw h1 h2
      go_enter Tryd.func30, Tryd.ntmps30
      go_wp2_with (first | (go_at_call 28; refine (HL.out _).mono ?_; rintro e w' ⟨rfl, ⟨nd, rfl⟩⟩) | (go_at_call 25; refine (HD.out _).mono ?_; rintro e w' ⟨rfl, ⟨nd, rfl⟩⟩))
      go_ret
      exact ⟨by show Ending.returned (Value.bool (c == 36)) = _; simp [BEq.beq], by repeat (first | exact Drawn0.refl _ | apply Drawn0.step)⟩

theorem faults_reads {w : World} (h : LaidG w) : Kd.C Kd.string w (some ⟨0, 0, none⟩) 8 faultsB :=
  Kd.C_of_reads (d := (⟨#[]⟩ : ByteArray)) ⟨rfl, by omega, fun _ => ⟨_, rfl, fun j hj => by
    have := h.faults j hj
    rw [show (Addr.mk 0 0 none).add j = ⟨0, j, none⟩ from by unfold Addr.add; split <;> simp_all]
    exact this⟩⟩
theorem pairs_reads {w : World} (h : LaidG w) : Kd.C Kd.string w (some ⟨1, 0, none⟩) 3 pairsB :=
  Kd.C_of_reads (d := (⟨#[]⟩ : ByteArray)) ⟨rfl, by omega, fun _ => ⟨_, rfl, fun j hj => by
    have := h.pairs j hj
    rw [show (Addr.mk 1 0 none).add j = ⟨1, j, none⟩ from by unfold Addr.add; split <;> simp_all]
    exact this⟩⟩
theorem begins_faults (k : Nat) (a0 r : ByteArray) (w : World) (h : LaidG w) (hr : lex_begins.f k a0 faultsB = some r) :
    Calls Tryd.prog 31 #[.string a0, .slice (some ⟨0, 0, none⟩) 8 8] w fun e w' => e = .returned (.string r) ∧ Drawn0 w w' :=
  lex_begins.calls k a0 (some ⟨0, 0, none⟩) 8 faultsB r w (faults_reads h) (by decide) hr
theorem begins_pairs (k : Nat) (a0 r : ByteArray) (w : World) (h : LaidG w) (hr : lex_begins.f k a0 pairsB = some r) :
    Calls Tryd.prog 31 #[.string a0, .slice (some ⟨1, 0, none⟩) 3 3] w fun e w' => e = .returned (.string r) ∧ Drawn0 w w' :=
  lex_begins.calls k a0 (some ⟨1, 0, none⟩) 3 pairsB r w (pairs_reads h) (by decide) hr

set_option maxHeartbeats 4000000 in
set_option maxRecDepth 100000 in
theorem lex_next.calls (k : Nat) (a0 : ByteArray) (r1 : Int) (r2 : ByteArray) (r3 : Int) (r4 : Int) (r5 : Int) (w : World) (hG : LaidG w) (h : lex_next.f k a0 = some (r1, r2, r3, r4, r5)) :
    Calls Tryd.prog 18 #[.string a0] w fun e w' => e = .returned (.tuple #[.agg #[.int .i64 r1, .string r2, .int .i64 r3], .int .i64 r4, .int .i64 r5]) ∧ Below w.heap.size w w' := by
  have hu31 := Tryd.underlying31
  have HGL := Aside0.mk hG
  clear hG
  have HB := Aside0.mk (Below.refl w.heap.size w)
  unfold lex_next.f at h
  by_cases p : 0 < a0.size
  case neg => rw [if_neg p] at h; exact absurd h (by simp)
  rw [if_pos p] at h
  by_cases hsz : a0.size ≤ 140737488351232
  case neg => rw [if_neg hsz] at h; exact absurd h (by simp)
  rw [if_pos hsz] at h
  have hbt : bt a0 0 = ((a0[0]'p).toNat : Int) := (bt_at a0 0 (by simpa using p)).symm
  have hlt : ((a0[0]'p).toNat : Int) < 256 := by have := (a0[0]'p).toNat_lt; omega
  have hge : 0 ≤ ((a0[0]'p).toNat : Int) := by omega
  rw [hbt] at h
  clear hbt
  obtain ⟨c, hc⟩ : ∃ c : Int, ((a0[0]'p).toNat : Int) = c := ⟨_, rfl⟩
  rw [hc] at h hlt hge
  have H := Aside0.mk h
  clear h
  have hpp : (0 < a0.size) = True := eq_true p
  go_enter Tryd.func18, Tryd.ntmps18
  go_upto_block 0 with (first | ((with_reducible refine gate_dst (N := 2) rfl ?_); refine box_event ?hg (N := 2) ?hd (cs := #[.int .i64 0, .string (⟨#[]⟩ : ByteArray), .int .i64 0]) (t := 31) ?hr ?_; (case hd => rfl); (case hg => rfl); (case hr => first | (go_simp; done) | (go_simp; rfl)); intro gb hg w1 hbox hb; have BK := Aside0.mk hbox; have n0_ := Aside0.mk hb; have GE : Aside0 (w.heap.size ≤ gb) := ⟨Nat.le_of_eq hg.symm⟩; clear HB; have HB := n0_; clear n0_ hbox hb hg))
  go_cut [6, 7] (fun v6 v7 wc => ∃ (n kd : Int), v6 = .int .i64 n ∧ v7 = .int .i64 kd ∧ Aside0 (finN a0 kd n = some (r1, r2, r3, r4, r5)) ∧ Aside0 (wc.heap[gb]? = some (.cells #[.int .i64 0, .string (⟨#[]⟩ : ByteArray), .int .i64 0] 31 (0, 0))) ∧ Aside0 (Below w.heap.size w wc))
  case first =>
    have h := H.out
    clear H
    unfold nextC at h
    have hlt1 := hlt
    cases hd : dg c with
    | true =>
      rw [if_pos hd] at h
      have HD := Aside0.mk (fun w => lex_digit.calls c true w (by rw [digit_some, hd]))
      have HN := Aside0.mk (fun w => lex_number.calls a0 (numL a0.data.toList) w (by unfold lex_number.f; rw [if_pos hsz]))
      have H := Aside0.mk h
      clear hd h
      go_wp2_with (first | (go_at_call 25; refine (HD.out _).mono ?_; rintro e w' ⟨rfl, ⟨nd, rfl⟩⟩) | (go_at_call 26; refine (HN.out _).mono ?_; rintro e w' ⟨rfl, ⟨nd, rfl⟩⟩))
      go_meet
      case rel => exact ⟨(numL a0.data.toList : Int), 1, (by first | rfl | (simp; done)), rfl, ⟨H.out⟩, ⟨by (with_reducible repeat (first | refine blk_drewN ?_ _ | refine blk_drew ?_ | refine blk_alloc ?_ _)); exact BK.out⟩, ⟨by repeat (first | (with_reducible first | exact HB.out | apply below_alloc | apply pw_below_drewN | apply below_drew1) | exact HB.out)⟩⟩
    | false =>
      rw [if_neg (by rw [hd]; decide)] at h
      have HD := Aside0.mk (fun w => lex_digit.calls c false w (by rw [digit_some, hd]))
      clear hd
      by_cases h34 : c = 34
      · rw [if_pos h34] at h
        have h34b : (c == 34) = true := beq_iff_eq.mpr h34
        clear h34
        obtain ⟨⟨b1, b2, b3⟩, hq, h2⟩ := Option.bind_eq_some_iff.mp h
        clear h
        simp only [Option.some.injEq, Prod.mk.injEq] at h2
        obtain ⟨rfl, rfl, rfl, rfl, rfl⟩ := h2
        have HQ := Aside0.mk hq
        clear hq
        go_wp2_with (go_at_call 25; refine (HD.out _).mono ?_; rintro e w' ⟨rfl, ⟨nd, rfl⟩⟩)
        refine (lex_quoted.calls k a0 b1 b2 b3 _ (LaidG.below HGL.out (by repeat (first | (with_reducible first | exact HB.out | apply below_alloc | apply pw_below_drewN | apply below_drew1) | exact HB.out))) HQ.out).mono ?_
        rintro e w2 ⟨rfl, hb2⟩
        have n0_ := Aside0.mk (below_step (by repeat (first | (with_reducible first | exact HB.out | apply below_alloc | apply pw_below_drewN | apply below_drew1) | exact HB.out)) hb2)
        have n1_ := Aside0.mk (blk_below (g := gb) (o := .cells #[.int .i64 0, .string (⟨#[]⟩ : ByteArray), .int .i64 0] 31 (0, 0)) (by (with_reducible repeat (first | refine blk_drewN ?_ _ | refine blk_drew ?_ | refine blk_alloc ?_ _)); exact BK.out) hb2)
        clear HB BK hb2
        have HB := n0_
        have BK := n1_
        clear n0_ n1_
        have hcz0 : w2.cell? ⟨gb, 0, none⟩ = some (.int .i64 0) := (blk_cell BK.out 0).trans rfl
        have hcz1 : w2.cell? ⟨gb, 1, none⟩ = some (.string (⟨#[]⟩ : ByteArray)) := (blk_cell BK.out 1).trans rfl
        have hcz2 : w2.cell? ⟨gb, 2, none⟩ = some (.int .i64 0) := (blk_cell BK.out 2).trans rfl
        have hfz0 := blk_frozen BK.out 0
        have hfz1 := blk_frozen BK.out 1
        have hfz2 := blk_frozen BK.out 2
        go_wp2
        refine bodyPost_ret (results_list (rs := [.cell 2 31, .tmp 3, .tmp 4]) rfl (by simp) (.cell gb 31 #[.int .i64 2, .string b1, .int .i64 0] (0, 0) _ rfl (by (with_reducible repeat (first | refine blk_drewN ?_ _ | refine blk_drew ?_ | refine blk_alloc ?_ _)); refine blk_put (cs := #[.int .i64 2, .string b1, .int .i64 0]) ?_ 2 _ rfl; (with_reducible repeat (first | refine blk_drewN ?_ _ | refine blk_drew ?_ | refine blk_alloc ?_ _)); refine blk_put (cs := #[.int .i64 2, .string (⟨#[]⟩ : ByteArray), .int .i64 0]) ?_ 1 _ rfl; (with_reducible repeat (first | refine blk_drewN ?_ _ | refine blk_drew ?_ | refine blk_alloc ?_ _)); refine blk_put (cs := #[.int .i64 0, .string (⟨#[]⟩ : ByteArray), .int .i64 0]) ?_ 0 _ rfl; (with_reducible repeat (first | refine blk_drewN ?_ _ | refine blk_drew ?_ | refine blk_alloc ?_ _)); exact BK.out) hu31 rfl (by kernel_rfl) (.tmp (.tmp .nil)))) rfl ?_
        exact ⟨by first | rfl | (simp; done) | (simp [*]; done), by repeat (first | (with_reducible first | exact HB.out | apply below_alloc | apply pw_below_drewN | apply below_drew1 | refine below_set ?_ GE.out) | exact HB.out)⟩
      · rw [if_neg h34] at h
        have h34b : (c == 34) = false := beq_eq_false_iff_ne.mpr h34
        clear h34
        cases hl : lt c with
        | true =>
          rw [if_pos (by simp [hl])] at h
          have HL := Aside0.mk (fun w => lex_letter.calls c true w (by rw [letter_some, hl]))
          clear hl
          have HRUN := Aside0.mk (fun w => run_any 30 Tryd.f30 Tryd.func30 (by kernel_rfl) (by kernel_rfl) wd word_tests a0 w hsz)
          have H := Aside0.mk h
          clear h
          go_wp2_with (first | (go_at_call 25; refine (HD.out _).mono ?_; rintro e w' ⟨rfl, ⟨nd, rfl⟩⟩) | (go_at_call 28; refine (HL.out _).mono ?_; rintro e w' ⟨rfl, ⟨nd, rfl⟩⟩) | (go_at_call 29; refine (HRUN.out _).mono ?_; rintro e w' ⟨rfl, ⟨nd, rfl⟩⟩))
          go_meet
          case rel => exact ⟨(runL wd a0.data.toList : Int), 3, (by first | rfl | (simp; done)), rfl, ⟨H.out⟩, ⟨by (with_reducible repeat (first | refine blk_drewN ?_ _ | refine blk_drew ?_ | refine blk_alloc ?_ _)); exact BK.out⟩, ⟨by repeat (first | (with_reducible first | exact HB.out | apply below_alloc | apply pw_below_drewN | apply below_drew1) | exact HB.out)⟩⟩
        | false =>
          have HL := Aside0.mk (fun w => lex_letter.calls c false w (by rw [letter_some, hl]))
          by_cases h36 : c = 36
          · rw [if_pos (by simp [h36])] at h
            have h36b : (c == 36) = true := beq_iff_eq.mpr h36
            clear hl h36
            have HRUN := Aside0.mk (fun w => run_any 30 Tryd.f30 Tryd.func30 (by kernel_rfl) (by kernel_rfl) wd word_tests a0 w hsz)
            have H := Aside0.mk h
            clear h
            go_wp2_with (first | (go_at_call 25; refine (HD.out _).mono ?_; rintro e w' ⟨rfl, ⟨nd, rfl⟩⟩) | (go_at_call 28; refine (HL.out _).mono ?_; rintro e w' ⟨rfl, ⟨nd, rfl⟩⟩) | (go_at_call 29; refine (HRUN.out _).mono ?_; rintro e w' ⟨rfl, ⟨nd, rfl⟩⟩))
            go_meet
            case rel => exact ⟨(runL wd a0.data.toList : Int), 3, (by first | rfl | (simp; done)), rfl, ⟨H.out⟩, ⟨by (with_reducible repeat (first | refine blk_drewN ?_ _ | refine blk_drew ?_ | refine blk_alloc ?_ _)); exact BK.out⟩, ⟨by repeat (first | (with_reducible first | exact HB.out | apply below_alloc | apply pw_below_drewN | apply below_drew1) | exact HB.out)⟩⟩
          · rw [if_neg (by simp [hl, h36])] at h
            have h36b : (c == 36) = false := beq_eq_false_iff_ne.mpr h36
            clear hl h36
            by_cases h35 : c = 35
            · rw [if_pos h35] at h
              have h35b : (c == 35) = true := beq_iff_eq.mpr h35
              clear h35
              obtain ⟨t, ht, h2⟩ := Option.bind_eq_some_iff.mp h
              have HT := Aside0.mk ht
              have H := Aside0.mk h2
              clear h ht h2
              go_wp2_with (first | (go_at_call 25; refine (HD.out _).mono ?_; rintro e w' ⟨rfl, ⟨nd, rfl⟩⟩) | (go_at_call 28; refine (HL.out _).mono ?_; rintro e w' ⟨rfl, ⟨nd, rfl⟩⟩))
              refine (begins_faults k a0 t _ (LaidG.below HGL.out (by repeat (first | (with_reducible first | exact HB.out | apply below_alloc | apply pw_below_drewN | apply below_drew1) | exact HB.out))) HT.out).mono ?_
              rintro e w' ⟨rfl, ⟨nd, rfl⟩⟩
              go_wp2
              go_meet
              case rel => exact ⟨(t.size : Int), 4, (by first | rfl | (simp; done)), rfl, ⟨H.out⟩, ⟨by (with_reducible repeat (first | refine blk_drewN ?_ _ | refine blk_drew ?_ | refine blk_alloc ?_ _)); exact BK.out⟩, ⟨by repeat (first | (with_reducible first | exact HB.out | apply below_alloc | apply pw_below_drewN | apply below_drew1) | exact HB.out)⟩⟩
            · rw [if_neg h35] at h
              have h35b : (c == 35) = false := beq_eq_false_iff_ne.mpr h35
              clear h35
              obtain ⟨t, ht, h2⟩ := Option.bind_eq_some_iff.mp h
              have HT := Aside0.mk ht
              clear h ht
              by_cases hz : (t.size : Int) = 0
              · rw [if_pos hz] at h2
                have hzb : ((t.size : Int) == 0) = true := beq_iff_eq.mpr hz
                have hzc : (t.size == 0) = true := beq_iff_eq.mpr (by omega)
                have HZ := Aside0.mk hz
                clear hz
                obtain ⟨ix, hix⟩ : ∃ ix : Int, Lib.indexByte singleL c.toNat.toUInt8 = ix := ⟨_, rfl⟩
                rw [hix] at h2
                have HIX := Aside0.mk (fun w => strings_IndexByte.calls ⟨#[43, 45, 42, 47, 94, 38, 37, 40, 41, 44, 58, 33, 61, 60, 62]⟩ c ix w (by unfold strings_IndexByte.f; rw [← hix]; rfl))
                clear hix
                by_cases h0 : 0 ≤ ix
                · rw [if_pos h0] at h2
                  have h0b : decide (0 ≤ ix) = true := decide_eq_true h0
                  have H := Aside0.mk h2
                  clear h0 h2
                  go_wp2_with (first | (go_at_call 25; refine (HD.out _).mono ?_; rintro e w' ⟨rfl, ⟨nd, rfl⟩⟩) | (go_at_call 28; refine (HL.out _).mono ?_; rintro e w' ⟨rfl, ⟨nd, rfl⟩⟩) | (go_at_call 32; refine (HIX.out _).mono ?_; rintro e w' ⟨rfl, ⟨nd, rfl⟩⟩))
                  refine (begins_pairs k a0 t _ (LaidG.below HGL.out (by repeat (first | (with_reducible first | exact HB.out | apply below_alloc | apply pw_below_drewN | apply below_drew1) | exact HB.out))) HT.out).mono ?_
                  rintro e w' ⟨rfl, ⟨nd, rfl⟩⟩
                  go_wp2_with (go_at_call 32; refine (HIX.out _).mono ?_; rintro e w' ⟨rfl, ⟨nd, rfl⟩⟩)
                  go_meet
                  case rel => exact ⟨1, 5, (by first | rfl | (simp; done)), rfl, ⟨H.out⟩, ⟨by (with_reducible repeat (first | refine blk_drewN ?_ _ | refine blk_drew ?_ | refine blk_alloc ?_ _)); exact BK.out⟩, ⟨by repeat (first | (with_reducible first | exact HB.out | apply below_alloc | apply pw_below_drewN | apply below_drew1) | exact HB.out)⟩⟩
                · rw [if_neg h0] at h2
                  have h0b : decide (0 ≤ ix) = false := decide_eq_false h0
                  have H := Aside0.mk h2
                  clear h0 h2
                  go_wp2_with (first | (go_at_call 25; refine (HD.out _).mono ?_; rintro e w' ⟨rfl, ⟨nd, rfl⟩⟩) | (go_at_call 28; refine (HL.out _).mono ?_; rintro e w' ⟨rfl, ⟨nd, rfl⟩⟩) | (go_at_call 32; refine (HIX.out _).mono ?_; rintro e w' ⟨rfl, ⟨nd, rfl⟩⟩))
                  refine (begins_pairs k a0 t _ (LaidG.below HGL.out (by repeat (first | (with_reducible first | exact HB.out | apply below_alloc | apply pw_below_drewN | apply below_drew1) | exact HB.out))) HT.out).mono ?_
                  rintro e w' ⟨rfl, ⟨nd, rfl⟩⟩
                  go_wp2_with (go_at_call 32; refine (HIX.out _).mono ?_; rintro e w' ⟨rfl, ⟨nd, rfl⟩⟩)
                  go_meet
                  case rel => exact ⟨(t.size : Int), 5, (by first | rfl | (simp; done)), rfl, ⟨by rw [HZ.out]; exact H.out⟩, ⟨by (with_reducible repeat (first | refine blk_drewN ?_ _ | refine blk_drew ?_ | refine blk_alloc ?_ _)); exact BK.out⟩, ⟨by repeat (first | (with_reducible first | exact HB.out | apply below_alloc | apply pw_below_drewN | apply below_drew1) | exact HB.out)⟩⟩
              · rw [if_neg hz] at h2
                have hzb : ((t.size : Int) == 0) = false := beq_eq_false_iff_ne.mpr hz
                have hzc : (t.size == 0) = false := beq_eq_false_iff_ne.mpr (by omega)
                have H := Aside0.mk h2
                clear hz h2
                go_wp2_with (first | (go_at_call 25; refine (HD.out _).mono ?_; rintro e w' ⟨rfl, ⟨nd, rfl⟩⟩) | (go_at_call 28; refine (HL.out _).mono ?_; rintro e w' ⟨rfl, ⟨nd, rfl⟩⟩))
                refine (begins_pairs k a0 t _ (LaidG.below HGL.out (by repeat (first | (with_reducible first | exact HB.out | apply below_alloc | apply pw_below_drewN | apply below_drew1) | exact HB.out))) HT.out).mono ?_
                rintro e w' ⟨rfl, ⟨nd, rfl⟩⟩
                go_wp2
                go_meet
                case rel => exact ⟨(t.size : Int), 5, (by first | rfl | (simp; done)), rfl, ⟨H.out⟩, ⟨by (with_reducible repeat (first | refine blk_drewN ?_ _ | refine blk_drew ?_ | refine blk_alloc ?_ _)); exact BK.out⟩, ⟨by repeat (first | (with_reducible first | exact HB.out | apply below_alloc | apply pw_below_drewN | apply below_drew1) | exact HB.out)⟩⟩
  case rest =>
    obtain ⟨n, kd, rfl, rfl, HF, BK, HB⟩ := hcut
    have h := HF.out
    clear HF
    unfold finN at h
    have hcz0 : wc.cell? ⟨gb, 0, none⟩ = some (.int .i64 0) := (blk_cell BK.out 0).trans rfl
    have hcz1 : wc.cell? ⟨gb, 1, none⟩ = some (.string (⟨#[]⟩ : ByteArray)) := (blk_cell BK.out 1).trans rfl
    have hcz2 : wc.cell? ⟨gb, 2, none⟩ = some (.int .i64 0) := (blk_cell BK.out 2).trans rfl
    have hfz0 := blk_frozen BK.out 0
    have hfz1 := blk_frozen BK.out 1
    have hfz2 := blk_frozen BK.out 2
    by_cases h0 : n = 0
    · rw [if_pos h0] at h
      have h0b : (n == 0) = true := beq_iff_eq.mpr h0
      simp only [Option.some.injEq, Prod.mk.injEq] at h
      obtain ⟨rfl, rfl, rfl, rfl, rfl⟩ := h
      clear h0
      go_wp2
      refine bodyPost_ret (results_list (rs := [.cell 2 31, .tmp 3, .tmp 4]) rfl (by simp) (.cell gb 31 #[.int .i64 0, .string (⟨#[]⟩ : ByteArray), .int .i64 0] (0, 0) _ rfl (by (with_reducible repeat (first | refine blk_drewN ?_ _ | refine blk_drew ?_ | refine blk_alloc ?_ _)); refine blk_put (cs := #[.int .i64 0, .string (⟨#[]⟩ : ByteArray), .int .i64 0]) ?_ 2 _ rfl; (with_reducible repeat (first | refine blk_drewN ?_ _ | refine blk_drew ?_ | refine blk_alloc ?_ _)); refine blk_put (cs := #[.int .i64 0, .string (⟨#[]⟩ : ByteArray), .int .i64 0]) ?_ 1 _ rfl; (with_reducible repeat (first | refine blk_drewN ?_ _ | refine blk_drew ?_ | refine blk_alloc ?_ _)); refine blk_put (cs := #[.int .i64 0, .string (⟨#[]⟩ : ByteArray), .int .i64 0]) ?_ 0 _ rfl; (with_reducible repeat (first | refine blk_drewN ?_ _ | refine blk_drew ?_ | refine blk_alloc ?_ _)); exact BK.out) hu31 rfl (by kernel_rfl) (.tmp (.tmp .nil)))) rfl ?_
      exact ⟨by first | rfl | (simp; done) | (simp [*]; done), by repeat (first | (with_reducible first | exact HB.out | apply below_alloc | apply pw_below_drewN | apply below_drew1 | refine below_set ?_ GE.out) | exact HB.out)⟩
    · rw [if_neg h0] at h
      have h0b : (n == 0) = false := beq_eq_false_iff_ne.mpr h0
      by_cases hn0 : 0 ≤ n
      case neg => rw [if_neg hn0] at h; exact absurd h (by simp)
      rw [if_pos hn0] at h
      by_cases hn1 : n ≤ (a0.size : Int)
      case neg => rw [if_neg hn1] at h; exact absurd h (by simp)
      rw [if_pos hn1] at h
      simp only [Option.some.injEq, Prod.mk.injEq] at h
      obtain ⟨rfl, rfl, rfl, rfl, rfl⟩ := h
      have hn0b := eq_true hn0
      have hn1b := eq_true hn1
      clear h0 hn0 hn1
      go_wp2
      refine bodyPost_ret (results_list (rs := [.cell 2 31, .tmp 3, .tmp 4]) rfl (by simp) (.cell gb 31 #[.int .i64 kd, .string (a0.extract 0 n.toNat), .int .i64 0] (0, 0) _ rfl (by (with_reducible repeat (first | refine blk_drewN ?_ _ | refine blk_drew ?_ | refine blk_alloc ?_ _)); refine blk_put (cs := #[.int .i64 kd, .string (a0.extract 0 n.toNat), .int .i64 0]) ?_ 2 _ rfl; (with_reducible repeat (first | refine blk_drewN ?_ _ | refine blk_drew ?_ | refine blk_alloc ?_ _)); refine blk_put (cs := #[.int .i64 kd, .string (⟨#[]⟩ : ByteArray), .int .i64 0]) ?_ 1 _ rfl; (with_reducible repeat (first | refine blk_drewN ?_ _ | refine blk_drew ?_ | refine blk_alloc ?_ _)); refine blk_put (cs := #[.int .i64 0, .string (⟨#[]⟩ : ByteArray), .int .i64 0]) ?_ 0 _ rfl; (with_reducible repeat (first | refine blk_drewN ?_ _ | refine blk_drew ?_ | refine blk_alloc ?_ _)); exact BK.out) hu31 rfl (by kernel_rfl) (.tmp (.tmp .nil)))) rfl ?_
      exact ⟨by first | rfl | (simp; done) | (simp [*]; done), by repeat (first | (with_reducible first | exact HB.out | apply below_alloc | apply pw_below_drewN | apply below_drew1 | refine below_set ?_ GE.out) | exact HB.out)⟩

end Go.Proofs.YtceldhkfidmfkaaDoor.L
