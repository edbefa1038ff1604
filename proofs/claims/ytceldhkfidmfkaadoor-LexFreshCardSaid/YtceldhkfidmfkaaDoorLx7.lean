-- by wprint.py, out of the translation
import Derived.Test.YtceldhkfidmfkaaDoorLx0
import Derived.Test.YtceldhkfidmfkaaDoorLx6
import Derived.Test.YtceldhkfidmfkaaDoorPlain
namespace Go.Proofs.YtceldhkfidmfkaaDoor.L
open Go.RowKit Go.Proofs.YtceldhkfidmfkaaDoorW.PrintWords Go.Proofs.YtceldhkfidmfkaaDoorW.PrintLast Go.Proofs.YtceldhkfidmfkaaDoorW.PrintMore
attribute [local go_sem] max2_int min2_int max_two min_two max_three min_three max_four min_four   -- for this text's walks alone
set_option linter.unusedVariables false
set_option linter.unusedSimpArgs false

/-! ### lex_number: function 26 -/
-- IMPORT Derived.Test.YtceldhkfidmfkaaDoorPlain
open Go.Proofs.YtceldhkfidmfkaaDoor.Plain
theorem ret_int {k : IntKind} {a b : Int} (h : a = b) : Ending.returned (.int k a) = .returned (.int k b) := by rw [h]

/-- What a function value that tests a byte says. -/
def Tests (f : FuncId) (p : Int → Bool) : Prop := ∀ (c : Int) (w : World), 0 ≤ c → c < 256 → Calls Tryd.prog f #[.int .u8 c] w fun e w' => e = .returned (.bool (p c)) ∧ Drawn0 w w'

set_option maxHeartbeats 1000000 in
/-- lex.run at any function value that tests a byte. -/
theorem run_any (f : FuncId) (fn : Func) (hf : Tryd.prog.funcs[f]? = some fn) (hname : (fn.name == "runtime.NumGoroutine") = false) (hb : fn.body.isSome = true) (p : Int → Bool) (ht : Tests f p) (s : ByteArray) (w : World) (hs : s.size ≤ 140737488351232) :
    Calls Tryd.prog 29 #[.string s, .func (.func f) #[] #[]] w fun e w' => e = .returned (.int .i64 (runL p s.data.toList)) ∧ Drawn0 w w' := by
  have HT := Aside0.mk ht
  clear ht
  have hcf := fun (args : Array Value) (w : World) => enters_ (P := Tryd.prog) hf hname hb args w
  clear hf hname hb
  go_enter Tryd.func29, Tryd.ntmps29
  go_wp2
  go_loopw [8] (fun i wr => ∃ k : Nat, k ≤ s.size ∧ i = .int .i64 k ∧ Aside0 (allB p s.data.toList k) ∧ Drawn0 w wr) (fun i _ => s.size - (intOf i).toNat)
  case atStart => exact ⟨0, Nat.zero_le _, rfl, ⟨allB_zero _ _⟩, Drawn0.refl _⟩
  case round =>
    obtain ⟨k, hk, rfl, hA, ⟨n, rfl⟩⟩ := hrel
    by_cases hlt : k < s.size
    · have hl : k < s.data.toList.length := by simpa using hlt
      have hb1 : 0 ≤ ((s[k]).toNat : Int) := by omega
      have hb2 : ((s[k]).toNat : Int) < 256 := by have := s[k].toNat_lt; omega
      have hc := HT.out ((s[k]).toNat : Int)
      have hgs : s.data.toList[k] = s[k] := rfl
      cases hp : p ((s[k]).toNat : Int) with
      | true =>
        rw [hp] at hc
        have HC := Aside0.mk hc
        have HP := Aside0.mk hp
        have HG := Aside0.mk hgs
        clear hc hp hgs
        go_wp2_with fail
        refine (HC.out _ hb1 hb2).mono ?_
        rintro e w' ⟨rfl, ⟨nd, rfl⟩⟩
        go_wp2
        go_roundw
        case rel => exact ⟨k + 1, by omega, by go_num, ⟨allB_succ hl hA.out (by rw [HG.out]; exact HP.out)⟩, by repeat (first | exact Drawn0.refl _ | apply Drawn0.step)⟩
        case measure => simp [intOf]; omega
      | false =>
        rw [hp] at hc
        have HC := Aside0.mk hc
        have HP := Aside0.mk hp
        have HG := Aside0.mk hgs
        clear hc hp hgs
        go_wp2_with fail
        refine (HC.out _ hb1 hb2).mono ?_
        rintro e w' ⟨rfl, ⟨nd, rfl⟩⟩
        go_wp2
        go_ret
        exact ⟨ret_int (by rw [allB_stop hl hA.out (by rw [HG.out]; exact HP.out)]), by repeat (first | exact Drawn0.refl _ | apply Drawn0.step)⟩
    · obtain rfl : k = s.size := by omega
      go_wp2
      go_ret
      exact ⟨ret_int (by rw [allB_end (l := s.data.toList) (by simpa using hA.out)]; simp), by repeat (first | exact Drawn0.refl _ | apply Drawn0.step)⟩

theorem digit_tests : Tests 25 dg := by
  intro c w h0 h1
  have h : lex_digit.f c = some (dg c) := by
    unfold lex_digit.f dg
    by_cases h : 48 ≤ c <;> simp [h]
  exact lex_digit.calls c _ w h
theorem letter_some (c : Int) : lex_letter.f c = some (lt c) := by
  unfold lex_letter.f lt
  by_cases h : 65 ≤ c <;> by_cases h2 : c ≤ 90 <;> by_cases h3 : 97 ≤ c <;> simp [h, h2, h3]
theorem digit_some (c : Int) : lex_digit.f c = some (dg c) := by
  unfold lex_digit.f dg
  by_cases h : 48 ≤ c <;> simp [h]

def lex_number.f (a0 : ByteArray) : Option Int := if a0.size ≤ 140737488351232 then some (numL a0.data.toList : Int) else none

set_option maxHeartbeats 1000000 in
theorem lex_number.calls (a0 : ByteArray) (r : Int) (w : World) (h : lex_number.f a0 = some r) :
    Calls Tryd.prog 26 #[.string a0] w fun e w' => e = .returned (.int .i64 r) ∧ Drawn0 w w' := by
  unfold lex_number.f at h
  by_cases hs : a0.size ≤ 140737488351232
  · rw [if_pos hs] at h
    obtain rfl := Option.some.inj h
    clear h
    have hrun := fun s w hs => run_any 25 Tryd.f25 Tryd.func25 (by kernel_rfl) (by kernel_rfl) dg digit_tests s w hs
    have HR := Aside0.mk hrun
    clear hrun
    have hle := runL_le dg a0.data.toList
    rw [show a0.data.toList.length = a0.size from by simp] at hle
    obtain ⟨n, hn⟩ : ∃ n, n = runL dg a0.data.toList := ⟨_, rfl⟩
    go_enter Tryd.func26, Tryd.ntmps26
    go_wp2_with fail
    refine (HR.out a0 _ hs).mono ?_
    rintro e w' ⟨rfl, ⟨nd, rfl⟩⟩
    rw [← hn]
    rw [← hn] at hle
    have HN := Aside0.mk hn
    clear hn
    have hfin : numL a0.data.toList = numTail n (a0.data.toList.drop n) := by unfold numL; rw [← HN.out]
    have HF := Aside0.mk hfin
    clear hfin
    by_cases hlt : n < a0.size
    · have hl : n < a0.data.toList.length := by simpa using hlt
      have hdr : a0.data.toList.drop n = a0[n] :: a0.data.toList.drop (n + 1) := by
        rw [List.drop_eq_getElem_cons hl]; rfl
      have HD := Aside0.mk hdr
      clear hdr
      by_cases hdot : ((a0[n]).toNat : Int) = 46
      · have hb0 : (((a0[n]).toNat : Int) == 46) = true := beq_iff_eq.mpr hdot
        have HDOT := Aside0.mk hdot
        clear hdot
        have hcut : (a0.extract (n + 1) a0.size).data.toList = a0.data.toList.drop (n + 1) := by
          rw [ByteArray.data_extract, Array.toList_extract, List.extract_eq_take_drop, List.take_of_length_le (by simp)]
        have HC := Aside0.mk hcut
        clear hcut
        have hw : IntKind.i64.wrap ((n : Int) + 1) = (n : Int) + 1 := by rw [IntKind.wrap_i64]; omega
        go_wp2_with fail
        refine (HR.out _ _ (by rw [ByteArray.size_extract]; omega)).mono ?_
        rintro e w' ⟨rfl, ⟨nd2, rfl⟩⟩
        rw [HC.out]
        have hle2 := runL_le dg (a0.data.toList.drop (n + 1))
        rw [List.length_drop, show a0.data.toList.length = a0.size from by simp] at hle2
        obtain ⟨m, hm⟩ : ∃ m, m = runL dg (a0.data.toList.drop (n + 1)) := ⟨_, rfl⟩
        rw [← hm]
        rw [← hm] at hle2
        have HM := Aside0.mk hm
        clear hm
        by_cases hm0 : 0 < m
        · go_wp2
          go_ret
          refine ⟨ret_int ?_, by repeat (first | exact Drawn0.refl _ | apply Drawn0.step)⟩
          rw [HF.out, HD.out]
          simp only [numTail]
          rw [← HM.out, if_pos ⟨HDOT.out, hm0⟩]
          omega
        · go_wp2
          go_ret
          refine ⟨ret_int ?_, by repeat (first | exact Drawn0.refl _ | apply Drawn0.step)⟩
          rw [HF.out, HD.out]
          simp only [numTail]
          rw [← HM.out, if_neg (fun h => hm0 h.2)]
      · have hb0 : (((a0[n]).toNat : Int) == 46) = false := beq_eq_false_iff_ne.mpr hdot
        have HDOT := Aside0.mk hdot
        clear hdot
        go_wp2
        go_ret
        refine ⟨ret_int ?_, by repeat (first | exact Drawn0.refl _ | apply Drawn0.step)⟩
        rw [HF.out, HD.out]
        simp only [numTail]
        rw [if_neg (fun h => HDOT.out h.1)]
    · have hdr : a0.data.toList.drop n = [] := List.drop_eq_nil_iff.mpr (by simp; omega)
      have HD := Aside0.mk hdr
      clear hdr
      go_wp2
      go_ret
      refine ⟨ret_int ?_, by repeat (first | exact Drawn0.refl _ | apply Drawn0.step)⟩
      rw [HF.out, HD.out]
      rfl
  · rw [if_neg hs] at h
    exact absurd h (by simp)

end Go.Proofs.YtceldhkfidmfkaaDoor.L
