-- by wprint.py, out of the translation
import Derived.Test.YtceldhkfidmfkaaDoorLx0
import Derived.Test.YtceldhkfidmfkaaDoorLx2
import Derived.Test.YtceldhkfidmfkaaDoorLx3
import Derived.Test.YtceldhkfidmfkaaDoorLaid
import Derived.Test.YtceldhkfidmfkaaDoorPlain
namespace Go.Proofs.YtceldhkfidmfkaaDoor.L
open Go.RowKit Go.Proofs.YtceldhkfidmfkaaDoorW.PrintWords Go.Proofs.YtceldhkfidmfkaaDoorW.PrintLast Go.Proofs.YtceldhkfidmfkaaDoorW.PrintMore
attribute [local go_sem] max2_int min2_int max_two min_two max_three min_three max_four min_four   -- for this text's walks alone
set_option linter.unusedVariables false
set_option linter.unusedSimpArgs false

/-! ### whittleref4_one: function 19 -/
-- IMPORT Derived.Test.YtceldhkfidmfkaaDoorPlain
open Go.Proofs.YtceldhkfidmfkaaDoor.Plain

/-- The bytes from a place on. -/
def dr (s : ByteArray) (i : Int) : List UInt8 := s.data.toList.drop i.toNat
theorem dr_len (s : ByteArray) (i : Int) : (dr s i).length = s.size - i.toNat := by
  unfold dr; rw [List.length_drop]; simp
theorem dr_cons {s : ByteArray} {i : Int} (h0 : 0 ≤ i) (h1 : i < (s.size : Int)) : ∃ c : UInt8, dr s i = c :: dr s (i + 1) ∧ bt s i = (c.toNat : Int) := by
  have hl : i.toNat < s.data.toList.length := by simp; omega
  have hs : i.toNat < s.size := by omega
  refine ⟨s.data.toList[i.toNat], ?_, ?_⟩
  · unfold dr
    rw [List.drop_eq_getElem_cons hl, show (i + 1).toNat = i.toNat + 1 by omega]
  · rw [← bt_at s i hs]; rfl
theorem dr_nil {s : ByteArray} {i : Int} (h : ¬ i < (s.size : Int)) : dr s i = [] := by
  unfold dr; exact List.drop_eq_nil_iff.mpr (by simp; omega)
theorem w64 {x : Int} (h0 : -9223372036854775808 ≤ x) (h1 : x ≤ 9223372036854775807) : wrap64 x = x := by unfold wrap64; omega
theorem ref_digit (c : Int) : whittleref4_digit.f c = some (dg c) := by
  unfold whittleref4_digit.f dg
  by_cases h : 48 ≤ c <;> simp [h]
theorem ref_letter (c : Int) : whittleref4_letter.f c = some (lt c) := by
  unfold whittleref4_letter.f lt
  by_cases h : 65 ≤ c <;> by_cases h2 : c ≤ 90 <;> by_cases h3 : 97 ≤ c <;> simp [h, h2, h3]

theorem ref_digits (s : ByteArray) (hs : s.size ≤ 140737488351232) (d : Nat) : ∀ i : Int, 0 ≤ i → i ≤ s.size → (dr s i).length = d →
    Ev (fun k => whittleref4_digits.l0 k s i) (i + runL dg (dr s i)) := by
  induction d with
  | zero =>
    intro i h0 h1 hd
    have hn : ¬ i < (s.size : Int) := by rw [dr_len] at hd; omega
    refine Ev.step (f := fun _ => some i) (fun k => ?_) ?_
    · simp only [whittleref4_digits.l0]; rw [if_neg hn]
    · rw [dr_nil hn]; simpa [runL] using Ev.now i
  | succ d ih =>
    intro i h0 h1 hd
    have hl : i < (s.size : Int) := by rw [dr_len] at hd; omega
    obtain ⟨c, hc, hb⟩ := dr_cons h0 hl
    have hd' : (dr s (i + 1)).length = d := by rw [hc] at hd; simpa using hd
    have hstep : ∀ k, whittleref4_digits.l0 (k + 1) s i = if dg (c.toNat : Int) = true then whittleref4_digits.l0 k s (i + 1) else some i := by
      intro k
      simp only [whittleref4_digits.l0]
      rw [if_pos hl, if_pos h0, ref_digit, hb, w64 (x := i + 1) (by omega) (by omega)]
      rfl
    cases hg : dg (c.toNat : Int) with
    | true =>
      refine Ev.step (f := fun k => whittleref4_digits.l0 k s (i + 1)) (fun k => by rw [hstep, hg, if_pos rfl]) ?_
      have := ih (i + 1) (by omega) (by omega) hd'
      rw [hc]
      simp only [runL, hg, if_true]
      rw [show i + ((runL dg (dr s (i + 1)) + 1 : Nat) : Int) = i + 1 + (runL dg (dr s (i + 1)) : Int) by omega]
      exact this
    | false =>
      refine Ev.step (f := fun _ => some i) (fun k => by rw [hstep, hg, if_neg (by decide)]) ?_
      rw [hc]
      simpa [runL, hg] using Ev.now i
theorem ref_digits_f (s : ByteArray) (hs : s.size ≤ 140737488351232) (i : Int) (h0 : 0 ≤ i) (h1 : i ≤ s.size) : ∃ k, whittleref4_digits.f k s i = some (i + runL dg (dr s i)) :=
  (ref_digits s hs _ i h0 h1 rfl).rounds

/-- What a text comes to, from a place in it on: the first bad byte's place (below 0: none yet), the bytes so far. -/
def txt (a1 : Int) (acc : List Int) (bad i : Int) (l : List UInt8) : ByteArray × Int × Int × Int :=
  match qLen l with
  | none => (⟨#[]⟩, 0, 41, a1)
  | some m =>
    if bad < 0 then (if okL l < m then (⟨#[]⟩, 0, 40, i + okL l) else (strOfNums (acc ++ (qSaid l).map fun c => (c.toNat : Int)), i + m, 0, 0))
    else (⟨#[]⟩, 0, 40, bad)

theorem qLen_pos {l : List UInt8} {m : Nat} (h : qLen l = some m) : 0 < m := by
  cases l with
  | nil => simp [qLen] at h
  | cons c r =>
    unfold qLen at h
    split at h
    · split at h
      · simp at h; omega
      · split at h
        · simp only [Option.map_eq_some_iff] at h; obtain ⟨a, _, rfl⟩ := h; omega
        · simp at h; omega
    · simp only [Option.map_eq_some_iff] at h; obtain ⟨a, _, rfl⟩ := h; omega
theorem okL_quote (r : List UInt8) {c : UInt8} (h : (c.toNat : Int) = 34) : okL (c :: r) = okL r + 1 := by
  unfold okL; simp only [runL]; rw [if_pos (by rw [h]; decide)]
theorem okL_bad (r : List UInt8) {c : UInt8} (h : badB (c.toNat : Int) = true) : okL (c :: r) = 0 := by
  unfold okL; simp only [runL]; rw [if_neg (by simp [h])]
theorem okL_ok (r : List UInt8) {c : UInt8} (h : badB (c.toNat : Int) = false) : okL (c :: r) = okL r + 1 := by
  unfold okL; simp only [runL]; rw [if_pos (by simp [h])]

theorem txt_two {a1 : Int} {acc : List Int} {bad i : Int} {c d : UInt8} {r : List UInt8} (hc : (c.toNat : Int) = 34) (hd : (d.toNat : Int) = 34) :
    txt a1 acc bad i (c :: d :: r) = txt a1 (acc ++ [34]) bad (i + 2) r := by
  unfold txt
  rw [show qLen (c :: d :: r) = (qLen r).map (· + 2) by simp [qLen, hc, hd], show qSaid (c :: d :: r) = c :: qSaid r by simp [qSaid, hc, hd], okL_quote _ hc, okL_quote _ hd]
  cases qLen r with
  | none => rfl
  | some m =>
    simp only [Option.map_some]
    by_cases hb : bad < 0
    · rw [if_pos hb, if_pos hb]
      by_cases ho : okL r < m
      · rw [if_pos (by omega), if_pos ho]
        rw [show i + ((okL r + 1 + 1 : Nat) : Int) = i + 2 + (okL r : Int) by omega]
      · rw [if_neg (by omega), if_neg ho]
        rw [show i + ((m + 2 : Nat) : Int) = i + 2 + (m : Int) by omega, List.map_cons, hc, List.append_assoc]
        rfl
    · rw [if_neg hb, if_neg hb]
theorem txt_end {a1 : Int} {acc : List Int} {bad i : Int} {c : UInt8} {r : List UInt8} (hc : (c.toNat : Int) = 34) (hr : ∀ d r', r = d :: r' → (d.toNat : Int) ≠ 34) :
    txt a1 acc bad i (c :: r) = if bad ≥ 0 then (⟨#[]⟩, 0, 40, bad) else (strOfNums acc, i + 1, 0, 0) := by
  have hq : qLen (c :: r) = some 1 := by
    cases r with
    | nil => simp [qLen, hc]
    | cons d r' => simp [qLen, hc, hr d r' rfl]
  have hq2 : qSaid (c :: r) = [] := by
    cases r with
    | nil => simp [qSaid, hc]
    | cons d r' => simp [qSaid, hc, hr d r' rfl]
  unfold txt
  rw [hq, hq2, okL_quote _ hc]
  simp only
  by_cases hb : bad < 0
  · rw [if_pos hb, if_neg (by omega), if_neg (by omega)]
    simp
  · rw [if_neg hb, if_pos (by omega)]
theorem txt_other {a1 : Int} {acc : List Int} {bad i : Int} {c : UInt8} {r : List UInt8} (hc : (c.toNat : Int) ≠ 34) (hi : 0 ≤ i) :
    txt a1 acc bad i (c :: r) = txt a1 (acc ++ [(c.toNat : Int)]) (if bad < 0 ∧ badB (c.toNat : Int) = true then i else bad) (i + 1) r := by
  have hl : qLen (c :: r) = (qLen r).map (· + 1) := by rw [qLen.eq_def]; simp [hc]
  have hsd : qSaid (c :: r) = c :: qSaid r := by rw [qSaid.eq_def]; simp [hc]
  unfold txt
  rw [hl, hsd]
  cases hq : qLen r with
  | none => rfl
  | some m =>
    have hm := qLen_pos hq
    simp only [Option.map_some]
    by_cases hb : bad < 0
    · cases hbb : badB (c.toNat : Int) with
      | true =>
        rw [okL_bad _ hbb]
        have e1 : (if bad < 0 ∧ true = true then i else bad) = i := if_pos ⟨hb, rfl⟩
        rw [e1, if_pos hb, if_pos (show 0 < m + 1 by omega), if_neg (show ¬ i < 0 by omega)]
        simp
      | false =>
        rw [okL_ok _ hbb]
        have e1 : (if bad < 0 ∧ false = true then i else bad) = bad := if_neg (by simp)
        rw [e1, if_pos hb, if_pos hb]
        by_cases ho : okL r < m
        · rw [if_pos (show okL r + 1 < m + 1 by omega), if_pos ho]
          rw [show i + ((okL r + 1 : Nat) : Int) = i + 1 + (okL r : Int) by omega]
        · rw [if_neg (show ¬ okL r + 1 < m + 1 by omega), if_neg ho]
          rw [show i + ((m + 1 : Nat) : Int) = i + 1 + (m : Int) by omega, List.map_cons, List.append_assoc]
          rfl
    · have e1 : (if bad < 0 ∧ badB (c.toNat : Int) = true then i else bad) = bad := if_neg (fun h => hb h.1)
      rw [e1, if_neg hb, if_neg hb]

theorem ref_text (s : ByteArray) (hs : s.size ≤ 1048576) (a1 : Int) (d : Nat) : ∀ (i bad : Int) (acc : List Int), 0 ≤ i → i ≤ s.size → -9223372036854775808 ≤ bad → bad ≤ s.size → acc.length ≤ i → (dr s i).length ≤ d →
    Ev (fun k => whittleref4_text.l0 k s a1 acc bad i) (txt a1 acc bad i (dr s i)) := by
  induction d using Nat.strongRecOn with
  | _ d ih =>
    intro i bad acc h0 h1 hbad0 hbad1 hacc hd
    by_cases hl : i < (s.size : Int)
    · obtain ⟨c, hc, hb⟩ := dr_cons h0 hl
      have hd' : (dr s (i + 1)).length < d := by rw [hc] at hd; simp at hd; omega
      by_cases h34 : (c.toNat : Int) = 34
      · -- a quote
        by_cases hl2 : i + 1 < (s.size : Int)
        · obtain ⟨e, he, hbe⟩ := dr_cons (show 0 ≤ i + 1 by omega) hl2
          have hw1 : wrap64 (i + 1) = i + 1 := w64 (by omega) (by omega)
          have hw2 : wrap64 (i + 1 + 1) = i + 2 := by rw [w64 (x := i + 1 + 1) (by omega) (by omega)]; omega
          have hstep : ∀ k, whittleref4_text.l0 (k + 1) s a1 acc bad i = whittleref4_text.j1 k s a1 acc bad i ((e.toNat : Int) == 34) := by
            intro k
            simp only [whittleref4_text.l0]
            rw [if_pos hl, if_pos h0, hb, if_pos h34, hw1, if_pos hl2, if_pos (by omega), hbe]
          refine Ev.step hstep ?_
          by_cases he34 : (e.toNat : Int) = 34
          · have hj : ∀ k, whittleref4_text.j1 (k + 1) s a1 acc bad i ((e.toNat : Int) == 34) = whittleref4_text.l0 k s a1 (acc ++ [34]) bad (i + 2) := by
              intro k
              simp only [whittleref4_text.j1]
              rw [beq_iff_eq.mpr he34, if_pos rfl, hw1, hbe, he34, hw2]
              have ha : acc.length < 140737488355328 := by omega
              by_cases hb0 : bad < 0
              · rw [if_pos hb0, if_pos (show 0 ≤ i + 1 by omega), if_pos hl2, if_neg (show ¬ (34 : Int) < 32 by omega), if_neg (show ¬ (34 : Int) > 126 by omega), if_pos ha]
              · rw [if_neg hb0, if_pos (show 0 ≤ i + 1 by omega), if_pos hl2, if_pos ha]
            refine Ev.step hj ?_
            rw [hc, he, show i + 1 + 1 = i + 2 by omega, txt_two h34 he34]
            have hd2 : (dr s (i + 2)).length < d := by rw [he, show i + 1 + 1 = i + 2 by omega] at hd'; simp at hd'; omega
            exact ih _ hd2 (i + 2) bad (acc ++ [34]) (by omega) (by omega) hbad0 hbad1 (by simp; omega) (Nat.le_refl _)
          · have hj : ∀ k, whittleref4_text.j1 (k + 1) s a1 acc bad i ((e.toNat : Int) == 34) = whittleref4_text.j2 k s a1 acc bad i := by
              intro k
              simp only [whittleref4_text.j1]
              rw [beq_eq_false_iff_ne.mpr he34, if_neg (by decide)]
            refine Ev.step hj ?_
            rw [hc, txt_end h34 (by rw [he]; rintro d' r' h; injection h with h1 h2; subst h1; exact he34)]
            refine Ev.step (f := fun _ => some (if bad ≥ 0 then (⟨#[]⟩, 0, 40, bad) else (strOfNums acc, i + 1, 0, 0))) (fun k => ?_) (Ev.now _)
            simp only [whittleref4_text.j2]
            rw [if_neg (by omega), hw1]
            split <;> rfl
        · have hw1 : wrap64 (i + 1) = i + 1 := w64 (by omega) (by omega)
          have hstep : ∀ k, whittleref4_text.l0 (k + 1) s a1 acc bad i = whittleref4_text.j1 k s a1 acc bad i false := by
            intro k
            simp only [whittleref4_text.l0]
            rw [if_pos hl, if_pos h0, hb, if_pos h34, hw1, if_neg hl2]
          refine Ev.step hstep ?_
          refine Ev.step (f := fun k => whittleref4_text.j2 k s a1 acc bad i) (fun k => by simp only [whittleref4_text.j1]; rw [if_neg (by decide)]) ?_
          rw [hc, txt_end h34 (by rw [dr_nil hl2]; rintro d' r' h; cases h)]
          refine Ev.step (f := fun _ => some (if bad ≥ 0 then (⟨#[]⟩, 0, 40, bad) else (strOfNums acc, i + 1, 0, 0))) (fun k => ?_) (Ev.now _)
          simp only [whittleref4_text.j2]
          rw [if_neg (by omega), hw1]
          split <;> rfl
      · -- another byte
        have hw1 : wrap64 (i + 1) = i + 1 := w64 (by omega) (by omega)
        have hstep : ∀ k, whittleref4_text.l0 (k + 1) s a1 acc bad i = whittleref4_text.l0 k s a1 (acc ++ [(c.toNat : Int)]) (if bad < 0 ∧ badB (c.toNat : Int) = true then i else bad) (i + 1) := by
          intro k
          simp only [whittleref4_text.l0]
          rw [if_pos hl, if_pos h0, hb, if_neg h34, hw1]
          have ha : acc.length < 140737488355328 := by omega
          by_cases hb0 : bad < 0
          · rw [if_pos hb0]
            by_cases h32 : (c.toNat : Int) < 32
            · have e1 : (if bad < 0 ∧ badB (c.toNat : Int) = true then i else bad) = i := if_pos ⟨hb0, by simp [badB, h32]⟩
              rw [if_pos h32, e1, if_pos ha]
            · rw [if_neg h32]
              by_cases h126 : (c.toNat : Int) > 126
              · have e1 : (if bad < 0 ∧ badB (c.toNat : Int) = true then i else bad) = i := if_pos ⟨hb0, by simp [badB]; omega⟩
                rw [if_pos h126, e1, if_pos ha]
              · have e1 : (if bad < 0 ∧ badB (c.toNat : Int) = true then i else bad) = bad := if_neg (by simp [badB]; omega)
                rw [if_neg h126, e1, if_pos ha]
          · have e1 : (if bad < 0 ∧ badB (c.toNat : Int) = true then i else bad) = bad := if_neg (fun h => hb0 h.1)
            rw [if_neg hb0, e1, if_pos ha]
        refine Ev.step hstep ?_
        rw [hc, txt_other h34 h0]
        exact ih _ hd' (i + 1) _ _ (by omega) (by omega) (by split <;> omega) (by split <;> omega) (by simp; omega) (Nat.le_refl _)
    · rw [dr_nil hl]
      refine Ev.step (f := fun k => whittleref4_text.j2 k s a1 acc bad i) (fun k => by simp only [whittleref4_text.l0]; rw [if_neg hl]) ?_
      refine Ev.step (f := fun _ => some ((⟨#[]⟩ : ByteArray), 0, 41, a1)) (fun k => by simp only [whittleref4_text.j2]; rw [if_pos (by omega)]) ?_
      exact Ev.now _
theorem ref_text_f (s : ByteArray) (hs : s.size ≤ 1048576) (a1 : Int) (h0 : 0 ≤ a1) (h1 : a1 < s.size) : ∃ k, whittleref4_text.f k s a1 = some (txt a1 [] (-1) (a1 + 1) (dr s (a1 + 1))) := by
  have h := (ref_text s hs a1 _ (a1 + 1) (-1) [] (by omega) (by omega) (by omega) (by omega) (by simp; omega) (Nat.le_refl _)).rounds
  obtain ⟨k, h⟩ := h
  exact ⟨k, by unfold whittleref4_text.f; rw [w64 (x := a1 + 1) (by omega) (by omega)]; exact h⟩

theorem ext_list (s : ByteArray) (i n : Nat) : (s.extract i (i + n)).data.toList = (s.data.toList.drop i).take n := by
  rw [ByteArray.data_extract, Array.toList_extract, List.extract_eq_take_drop]; congr 1; omega
theorem toList_data (s : ByteArray) : s.toList = s.data.toList := ByteArray.toList_eq s
theorem ref_begins (s : ByteArray) (hs : s.size ≤ 140737488351232) (t : ByteArray) (ht : t.size ≤ 64) (i : Int) (h0 : 0 ≤ i) (h1 : i < s.size) :
    whittleref4_begins.f s i t = some (t.data.toList.isPrefixOf (dr s i)) := by
  unfold whittleref4_begins.f
  rw [w64 (x := (s.size : Int) - i) (by omega) (by omega), w64 (x := i + (t.size : Int)) (by omega) (by omega)]
  have hpre : t.data.toList.isPrefixOf (dr s i) = ((dr s i).take t.size == t.data.toList) := by
    rw [Bool.eq_iff_iff, List.isPrefixOf_iff_prefix, beq_iff_eq, List.prefix_iff_eq_take]
    rw [show t.data.toList.length = t.size by simp]
    exact eq_comm
  by_cases hle : (s.size : Int) - i ≥ (t.size : Int)
  · rw [if_pos hle, if_pos h0, if_pos (by omega), if_pos (by omega), hpre]
    rw [show (i + (t.size : Int)).toNat = i.toNat + t.size by omega, toList_data, toList_data, ext_list]
    rfl
  · rw [if_neg hle, hpre]
    congr 1
    symm
    rw [beq_eq_false_iff_ne]
    intro h
    have := congrArg List.length h
    rw [List.length_take, dr_len] at this
    simp at this
    omega
-- IMPORT Derived.Test.YtceldhkfidmfkaaDoorLaid
open Go.Proofs.YtceldhkfidmfkaaDoor.Plain

/-- What stands at a place: the token and where it ends, or the error and its place. -/
def oneS (a0 : ByteArray) (a1 : Int) : Int × ByteArray × Int × Int × Int × Int :=
  match nextS (dr a0 a1) with
  | .tok kd text n => (kd, ⟨text.toArray⟩, a1, a1 + n, 0, 0)
  | .err e off => (0, ⟨#[]⟩, a1, 0, e, a1 + off)
def whittleref4_one.f (a0 : ByteArray) (a1 : Int) : Option (Int × ByteArray × Int × Int × Int × Int) :=
  if a0.size ≤ 1048576 then if 0 ≤ a1 then if a1 < (a0.size : Int) then some (oneS a0 a1) else none else none else none

/-- A kind and a length that were found stand for the token, or for none. -/
def ResR (a0 : ByteArray) (a1 kd e : Int) (r : Int × ByteArray × Int × Int × Int × Int) : Prop :=
  if kd = 0 then r = (0, ⟨#[]⟩, a1, 0, 40, a1) else a1 ≤ e ∧ e ≤ (a0.size : Int) ∧ r = (kd, a0.extract a1.toNat e.toNat, a1, e, 0, 0)

theorem runL_pos (p : Int → Bool) (c : UInt8) (r : List UInt8) : 0 < runL p (c :: r) ↔ p (c.toNat : Int) = true := by
  simp only [runL]
  split
  · rename_i h; exact ⟨fun _ => h, fun _ => by omega⟩
  · rename_i h; exact ⟨fun h' => by omega, fun h' => absurd h' h⟩
theorem resR_tok {a0 : ByteArray} {a1 kd : Int} {n : Nat} {r : Int × ByteArray × Int × Int × Int × Int} (h0 : 0 ≤ a1) (hn : n ≤ (dr a0 a1).length) (hl : a1 < (a0.size : Int)) (hz : n ≠ 0) (hk : kd ≠ 0)
    (hS : nextS (dr a0 a1) = tokN kd (dr a0 a1) n) (hr : oneS a0 a1 = r) {e : Int} (he : e = a1 + n) : ResR a0 a1 kd e r := by
  subst he
  unfold ResR
  rw [if_neg hk]
  rw [dr_len] at hn
  refine ⟨by omega, by omega, ?_⟩
  rw [← hr]
  unfold oneS
  rw [hS]
  unfold tokN
  rw [if_neg hz]
  simp only
  rw [show (a1 + (n : Int)).toNat = a1.toNat + n by omega]
  have : a0.extract a1.toNat (a1.toNat + n) = ⟨((dr a0 a1).take n).toArray⟩ := by
    have h := ext_list a0 a1.toNat n
    apply ByteArray.ext
    rw [← Array.toList_inj, h]
    rfl
  rw [this]
theorem strOf_bytes (l : List UInt8) : strOfNums (l.map fun c => (c.toNat : Int)) = ⟨l.toArray⟩ := by
  unfold strOfNums
  congr 2
  rw [List.map_map]
  conv => rhs; rw [← List.map_id l]
  apply List.map_congr_left
  intro c _
  simp
/-- One fault's name against what stands there. -/
def stepF (a1 : Int) (l : List UInt8) (st : Int × Int) (t : ByteArray) : Int × Int := if t.data.toList.isPrefixOf l = true then (a1 + (t.size : Int), 4) else st
def refF (a1 : Int) (l : List UInt8) (ts : List ByteArray) (st : Int × Int) : Int × Int := ts.foldl (stepF a1 l) st
theorem refF_snoc (a1 : Int) (l : List UInt8) (ts : List ByteArray) (t : ByteArray) (st : Int × Int) : refF a1 l (ts ++ [t]) st = stepF a1 l (refF a1 l ts st) t := by
  unfold refF; rw [List.foldl_append]; rfl
theorem begL_le (l : List UInt8) (ts : List (List UInt8)) : begL l ts ≤ l.length := by
  induction ts with
  | nil => simp [begL]
  | cons t ts ih =>
    simp only [begL]
    split
    · rename_i h
      exact (List.isPrefixOf_iff_prefix.mp h).length_le
    · exact ih
theorem begL_none {l : List UInt8} {ts : List (List UInt8)} (h : ∀ t, t ∈ ts → t.isPrefixOf l = false) : begL l ts = 0 := by
  induction ts with
  | nil => rfl
  | cons t ts ih =>
    simp only [begL]
    rw [if_neg (by rw [h t List.mem_cons_self]; decide)]
    exact ih (fun t ht => h t (List.mem_cons_of_mem _ ht))
theorem refF_gen (a1 : Int) (l : List UInt8) (ts : List ByteArray) (hp : (ts.map fun t => t.data.toList).Pairwise fun s t => ¬ s <+: t ∧ ¬ t <+: s) (h1 : ∀ t, t ∈ ts → t.data.toList ≠ []) : ∀ st, refF a1 l ts st =
    if begL l (ts.map fun t => t.data.toList) = 0 then st else (a1 + (begL l (ts.map fun t => t.data.toList) : Int), 4) := by
  induction ts with
  | nil => intro st; simp [refF, begL]
  | cons t ts ih =>
    intro st
    rw [List.map_cons, List.pairwise_cons] at hp
    have ih' := ih hp.2 (fun t ht => h1 t (List.mem_cons_of_mem _ ht))
    show refF a1 l ts (stepF a1 l st t) = _
    rw [ih', List.map_cons]
    by_cases ht : t.data.toList.isPrefixOf l = true
    · have hn : begL l (ts.map fun t => t.data.toList) = 0 := begL_none (fun s hs => by
        cases hsl : s.isPrefixOf l with
        | false => rfl
        | true =>
          have := hp.1 s hs
          rcases List.prefix_or_prefix_of_prefix (List.isPrefixOf_iff_prefix.mp ht) (List.isPrefixOf_iff_prefix.mp hsl) with h | h
          · exact absurd h this.1
          · exact absurd h this.2)
      have hpos : t.data.toList.length ≠ 0 := fun h => h1 t List.mem_cons_self (List.eq_nil_of_length_eq_zero h)
      have hb : begL l (t.data.toList :: ts.map fun t => t.data.toList) = t.data.toList.length := by unfold begL; rw [if_pos ht]
      rw [hb, if_pos hn, if_neg hpos]
      unfold stepF
      rw [if_pos ht]
      simp
    · have hb : begL l (t.data.toList :: ts.map fun t => t.data.toList) = begL l (ts.map fun t => t.data.toList) := by conv => lhs; unfold begL; rw [if_neg ht]
      rw [hb]
      unfold stepF
      rw [if_neg ht]
theorem refF_all (a1 : Int) (l : List UInt8) (st : Int × Int) : refF a1 l faultsB st = if begL l faultsL = 0 then st else (a1 + (begL l faultsL : Int), 4) :=
  refF_gen a1 l faultsB (by decide) (by decide) st
theorem faults_size (j : Int) (h0 : 0 ≤ j) (h1 : j < 8) : (rdOf ByteArray.empty faultsB j).size ≤ 64 := by
  obtain ⟨n, rfl⟩ := Int.eq_ofNat_of_zero_le h0
  have : n < 8 := by omega
  unfold rdOf
  rw [Int.toNat_natCast]
  match n, this with
  | 0, _ | 1, _ | 2, _ | 3, _ | 4, _ | 5, _ | 6, _ | 7, _ => decide
theorem faults_take (j : Int) (h0 : 0 ≤ j) (h1 : j < 8) : faultsB.take (j + 1).toNat = faultsB.take j.toNat ++ [rdOf ByteArray.empty faultsB j] := by
  have hl : j.toNat < faultsB.length := by show j.toNat < 8; omega
  rw [show (j + 1).toNat = j.toNat + 1 by omega, List.take_succ_eq_append_getElem hl]
  unfold rdOf
  rw [List.getD_eq_getElem?_getD, List.getElem?_eq_getElem hl]
  rfl
theorem singles_take (c j : Int) (h0 : 0 ≤ j) (h1 : j < 15) : (singlesL.take (j + 1).toNat).any (fun b => decide ((b.toNat : Int) = c)) =
    ((singlesL.take j.toNat).any (fun b => decide ((b.toNat : Int) = c)) || decide (bt ⟨#[43, 45, 42, 47, 94, 38, 37, 40, 41, 44, 58, 33, 61, 60, 62]⟩ j = c)) := by
  have hl : j.toNat < singlesL.length := by show j.toNat < 15; omega
  rw [show (j + 1).toNat = j.toNat + 1 by omega, List.take_succ_eq_append_getElem hl, List.any_append]
  have : bt ⟨#[43, 45, 42, 47, 94, 38, 37, 40, 41, 44, 58, 33, 61, 60, 62]⟩ j = (singlesL[j.toNat].toNat : Int) := by
    unfold bt
    rw [dif_pos (show j.toNat < (⟨#[43, 45, 42, 47, 94, 38, 37, 40, 41, 44, 58, 33, 61, 60, 62]⟩ : ByteArray).size by show j.toNat < 15; omega)]
    rfl
  rw [this]
  simp
theorem markL_le {c : Int} {l : List UInt8} (h : 0 < l.length) : markL c l ≤ l.length := by
  unfold markL
  have := begL_le l pairsL
  split
  · split <;> omega
  · exact this
theorem own_form8 {w : World} {base : Nat} {A : Option Addr} {cc gt : Nat} (h : Kd.R Kd.string 9 w base (fun k => True ∧ k ≠ gt) (.slice A 8 cc) faultsB) : ∃ g, A = some ⟨g, 0, none⟩ ∧ g ≠ gt := by
  obtain ⟨inner, ho⟩ := Kd.R_own h
  rcases ho.2 with ⟨hv, hz⟩ | ⟨g, cap, cur, hv, _⟩
  · injection hv with h1 h2 h3
    cases h2
  · injection hv with h1 h2 h3
    exact ⟨g, h1, (h.1 g (by rw [h1]; rfl)).2⟩
theorem resR_none {a0 : ByteArray} {a1 kd n : Int} {r : Int × ByteArray × Int × Int × Int × Int} (hk : kd = 0) (hS : nextS (dr a0 a1) = .err 40 0) (hr : oneS a0 a1 = r) : ResR a0 a1 kd n r := by
  unfold ResR
  rw [if_pos hk, ← hr]
  unfold oneS
  rw [hS]
  simp

set_option maxHeartbeats 4000000 in
set_option maxRecDepth 100000 in
theorem whittleref4_one.calls (a0 : ByteArray) (a1 : Int) (r1 : Int) (r2 : ByteArray) (r3 : Int) (r4 : Int) (r5 : Int) (r6 : Int) (w : World) (h : whittleref4_one.f a0 a1 = some (r1, r2, r3, r4, r5, r6)) :
    Calls Tryd.prog 19 #[.string a0, .int .i64 a1] w fun e w' => e = .returned (.tuple #[.agg #[.int .i64 r1, .string r2, .int .i64 r3], .int .i64 r4, .int .i64 r5, .int .i64 r6]) ∧ Below w.heap.size w w' := by
  have hu31 := Tryd.underlying31
  have HB := Aside0.mk (Below.refl w.heap.size w)
  unfold whittleref4_one.f at h
  by_cases hsz : a0.size ≤ 1048576
  case neg => rw [if_neg hsz] at h; exact absurd h (by simp)
  rw [if_pos hsz] at h
  by_cases h0 : 0 ≤ a1
  case neg => rw [if_neg h0] at h; exact absurd h (by simp)
  rw [if_pos h0] at h
  by_cases hl : a1 < (a0.size : Int)
  case neg => rw [if_neg hl] at h; exact absurd h (by simp)
  rw [if_pos hl] at h
  have HR := Aside0.mk (Option.some.inj h)
  clear h
  obtain ⟨cb, hcb, hbt⟩ := dr_cons h0 hl
  have hge : 0 ≤ (cb.toNat : Int) := by omega
  have hlt : (cb.toNat : Int) < 256 := by have := cb.toNat_lt; omega
  have hxx : ((a0[a1.toNat]'(by omega)).toNat : Int) = (cb.toNat : Int) := (bt_at a0 a1 (by omega)).trans hbt
  obtain ⟨c, hc⟩ : ∃ c : Int, (cb.toNat : Int) = c := ⟨_, rfl⟩
  rw [hc] at hge hlt hxx
  have HC := Aside0.mk hc
  have HCB := Aside0.mk hcb
  clear hc hcb hbt
  have hw1 : IntKind.i64.wrap (a1 + 1) = a1 + 1 := by rw [IntKind.wrap_i64]; omega
  have h0b := eq_true h0
  have hlb := eq_true hl
  go_enter Tryd.func19, Tryd.ntmps19
  go_upto_block 0 with (first | ((with_reducible refine gate_dst (N := 4) rfl ?_); refine box_event ?hg (N := 4) ?hd (cs := #[.int .i64 0, .string (⟨#[]⟩ : ByteArray), .int .i64 0]) (t := 31) ?hr ?_; (case hd => rfl); (case hg => rfl); (case hr => first | (go_simp; done) | (go_simp; rfl)); intro gb hg w1 hbox hb; have BK4 := Aside0.mk hbox; have n0_ := Aside0.mk hb; have GE4 : Aside0 (w.heap.size ≤ gb) := ⟨Nat.le_of_eq hg.symm⟩; clear HB; have HB := n0_; clear n0_; clear hbox hb hg) | ((with_reducible refine gate_dst (N := 9) rfl ?_); refine box_event ?hg (N := 9) ?hd (cs := #[.int .i64 0, .string (⟨#[]⟩ : ByteArray), .int .i64 0]) (t := 31) ?hr ?_; (case hd => rfl); (case hg => rfl); (case hr => first | (go_simp; done) | (go_simp; rfl)); intro gt hg w2 hbox hb; have BK9 := Aside0.mk hbox; have n0_ := Aside0.mk (below_step HB.out hb); have n1_ := Aside0.mk (blk_below (g := gb) (o := .cells #[.int .i64 0, .string (⟨#[]⟩ : ByteArray), .int .i64 0] 31 (0, 0)) BK4.out hb); have GE9 : Aside0 (w.heap.size ≤ gt) := ⟨by rw [hg]; exact below_size HB.out⟩; have NE : Aside0 (gb ≠ gt) := ⟨by rw [hg]; have := blk_lt BK4.out; omega⟩; clear HB BK4; have HB := n0_; have BK4 := n1_; clear n0_ n1_; have hz_0 : w2.cell? ⟨gt, 0, none⟩ = some (.int .i64 0) := (blk_cell BK9.out 0).trans rfl; have hz_1 : w2.cell? ⟨gt, 1, none⟩ = some (.string (⟨#[]⟩ : ByteArray)) := (blk_cell BK9.out 1).trans rfl; have hz_2 : w2.cell? ⟨gt, 2, none⟩ = some (.int .i64 0) := (blk_cell BK9.out 2).trans rfl; have fhz_0 := blk_frozen BK9.out 0; have fhz_1 := blk_frozen BK9.out 1; have fhz_2 := blk_frozen BK9.out 2; clear hbox hb hg))
  have K9 : (((w2.setCell ⟨gt, 0, none⟩ (.int .i64 0)).setCell ⟨gt, 1, none⟩ (.string (⟨#[]⟩ : ByteArray))).setCell ⟨gt, 2, none⟩ (.int .i64 a1)).heap[gt]? = some (.cells #[.int .i64 0, .string (⟨#[]⟩ : ByteArray), .int .i64 a1] 31 (0, 0)) := by refine blk_put (cs := #[.int .i64 0, .string (⟨#[]⟩ : ByteArray), .int .i64 0]) ?_ 2 _ rfl; refine blk_put (cs := #[.int .i64 0, .string (⟨#[]⟩ : ByteArray), .int .i64 0]) ?_ 1 _ rfl; refine blk_put (cs := #[.int .i64 0, .string (⟨#[]⟩ : ByteArray), .int .i64 0]) ?_ 0 _ rfl; exact BK9.out
  have K4 : (((w2.setCell ⟨gt, 0, none⟩ (.int .i64 0)).setCell ⟨gt, 1, none⟩ (.string (⟨#[]⟩ : ByteArray))).setCell ⟨gt, 2, none⟩ (.int .i64 a1)).heap[gb]? = some (.cells #[.int .i64 0, .string (⟨#[]⟩ : ByteArray), .int .i64 0] 31 (0, 0)) := blk_far (p := ⟨gt, 2, none⟩) (blk_far (p := ⟨gt, 1, none⟩) (blk_far (p := ⟨gt, 0, none⟩) BK4.out NE.out _) NE.out _) NE.out _
  have B3 : Below w.heap.size w (((w2.setCell ⟨gt, 0, none⟩ (.int .i64 0)).setCell ⟨gt, 1, none⟩ (.string (⟨#[]⟩ : ByteArray))).setCell ⟨gt, 2, none⟩ (.int .i64 a1)) := ((HB.out.setCell (p := ⟨gt, 0, none⟩) GE9.out _).setCell (p := ⟨gt, 1, none⟩) GE9.out _).setCell (p := ⟨gt, 2, none⟩) GE9.out _
  clear hz_0 hz_1 hz_2 fhz_0 fhz_1 fhz_2 BK4 BK9 HB
  generalize (((w2.setCell ⟨gt, 0, none⟩ (.int .i64 0)).setCell ⟨gt, 1, none⟩ (.string (⟨#[]⟩ : ByteArray))).setCell ⟨gt, 2, none⟩ (.int .i64 a1)) = W3 at K9 K4 B3 ⊢
  have BK9 := Aside0.mk K9
  have BK4 := Aside0.mk K4
  have HB := Aside0.mk B3
  clear K9 K4 B3
  go_cut [10] (fun v10 wc => ∃ (e kd : Int), v10 = .int .i64 e ∧ Aside0 (ResR a0 a1 kd e (r1, r2, r3, r4, r5, r6)) ∧ Aside0 (wc.heap[gb]? = some (.cells #[.int .i64 0, .string (⟨#[]⟩ : ByteArray), .int .i64 0] 31 (0, 0))) ∧ Aside0 (wc.heap[gt]? = some (.cells #[.int .i64 kd, .string (⟨#[]⟩ : ByteArray), .int .i64 a1] 31 (0, 0))) ∧ Aside0 (Below w.heap.size w wc))
  case first =>
    have hne1 : (gb = gt) = False := eq_false NE.out
    have hne2 : (gt = gb) = False := eq_false (fun h => NE.out h.symm)
    have hz_0 : W3.cell? ⟨gt, 0, none⟩ = some (.int .i64 0) := (blk_cell BK9.out 0).trans rfl
    have hz_1 : W3.cell? ⟨gt, 1, none⟩ = some (.string (⟨#[]⟩ : ByteArray)) := (blk_cell BK9.out 1).trans rfl
    have hz_2 : W3.cell? ⟨gt, 2, none⟩ = some (.int .i64 a1) := (blk_cell BK9.out 2).trans rfl
    have fhz_0 := blk_frozen BK9.out 0
    have fhz_1 := blk_frozen BK9.out 1
    have fhz_2 := blk_frozen BK9.out 2
    have hy_0 : W3.cell? ⟨gb, 0, none⟩ = some (.int .i64 0) := (blk_cell BK4.out 0).trans rfl
    have hy_1 : W3.cell? ⟨gb, 1, none⟩ = some (.string (⟨#[]⟩ : ByteArray)) := (blk_cell BK4.out 1).trans rfl
    have hy_2 : W3.cell? ⟨gb, 2, none⟩ = some (.int .i64 0) := (blk_cell BK4.out 2).trans rfl
    have fhy_0 := blk_frozen BK4.out 0
    have fhy_1 := blk_frozen BK4.out 1
    have fhy_2 := blk_frozen BK4.out 2
    have hcl := dr_len a0 a1
    cases hd : dg c with
    | true =>
      have HD := Aside0.mk (fun w => whittleref4_digit.calls c true w (by rw [ref_digit, hd]))
      have HDG := Aside0.mk hd
      clear hd
      obtain ⟨kN, hN⟩ := ref_digits_f a0 (by omega) a1 h0 (Int.le_of_lt hl)
      have hle := runL_le dg (dr a0 a1)
      have hpos : 0 < runL dg (dr a0 a1) := by rw [HCB.out]; simp only [runL]; rw [HC.out, HDG.out]; simp
      have hnum : numL (dr a0 a1) = numTail (runL dg (dr a0 a1)) (dr a0 (a1 + runL dg (dr a0 a1))) := by unfold numL; congr 1; unfold dr; rw [List.drop_drop]; congr 1; omega
      have hS : nextS (dr a0 a1) = tokN 1 (dr a0 a1) (numL (dr a0 a1)) := by rw [HCB.out]; simp only [nextS]; rw [HC.out, if_pos HDG.out]
      have hnl := numL_le (dr a0 a1)
      obtain ⟨N, hNN⟩ : ∃ N, runL dg (dr a0 a1) = N := ⟨_, rfl⟩
      rw [hNN] at hN hle hpos hnum
      obtain ⟨e1, he1⟩ : ∃ e1 : Int, a1 + (N : Int) = e1 := ⟨_, rfl⟩
      rw [he1] at hN hnum
      have hb0 : 0 ≤ e1 := by omega
      have hb1 : e1 ≤ (a0.size : Int) := by omega
      have HN := Aside0.mk (fun w => whittleref4_digits.calls kN a0 a1 e1 w hN)
      have HNUM := Aside0.mk hnum
      have HS := Aside0.mk hS
      have HE1 := Aside0.mk he1
      have HPOS := Aside0.mk hpos
      have HNL := Aside0.mk hnl
      have HLE := Aside0.mk hle
      clear hN hnum hS he1 hNN hpos hnl hle
      have hw2 : IntKind.i64.wrap (e1 + 1) = e1 + 1 := by rw [IntKind.wrap_i64]; omega
      by_cases hlt2 : e1 + 1 < (a0.size : Int)
      · obtain ⟨c2, hc2, hb2⟩ := dr_cons hb0 (show e1 < (a0.size : Int) by omega)
        obtain ⟨c3, hc3, hb3⟩ := dr_cons (show 0 ≤ e1 + 1 by omega) hlt2
        have hx2 : ((a0[e1.toNat]'(by omega)).toNat : Int) = (c2.toNat : Int) := (bt_at a0 e1 (by omega)).trans hb2
        have hx3 : ((a0[(e1 + 1).toNat]'(by omega)).toNat : Int) = (c3.toNat : Int) := (bt_at a0 (e1 + 1) (by omega)).trans hb3
        have hr3 : 0 < runL dg (dr a0 (e1 + 1)) ↔ dg (c3.toNat : Int) = true := by rw [hc3]; exact runL_pos _ _ _
        have hnt : numTail N (dr a0 e1) = if (c2.toNat : Int) = 46 ∧ 0 < runL dg (dr a0 (e1 + 1)) then N + 1 + runL dg (dr a0 (e1 + 1)) else N := by rw [hc2]; rfl
        have HR3 := Aside0.mk hr3
        have HNT := Aside0.mk hnt
        clear hr3 hnt hb2 hb3 hc2 hc3
        obtain ⟨v2, hv2⟩ : ∃ v : Int, (c2.toNat : Int) = v := ⟨_, rfl⟩
        obtain ⟨v3, hv3⟩ : ∃ v : Int, (c3.toNat : Int) = v := ⟨_, rfl⟩
        have HV2 := Aside0.mk hv2
        have HV3 := Aside0.mk hv3
        rw [hv2] at hx2
        rw [hv3] at hx3
        clear hv2 hv3
        have hlt2b : decide (e1 + 1 < (a0.size : Int)) = true := decide_eq_true hlt2
        have hb1c : (e1 < (a0.size : Int)) = True := eq_true (by omega)
        have hb0c : (0 ≤ e1) = True := eq_true hb0
        have hlt2c : (e1 + 1 < (a0.size : Int)) = True := eq_true hlt2
        have hb2c : (0 ≤ e1 + 1) = True := eq_true (by omega)
        by_cases hdot : v2 = 46
        · have hdotb : (v2 == 46) = true := beq_iff_eq.mpr hdot
          have HDOT := Aside0.mk hdot
          clear hdot
          cases hd3 : dg v3 with
          | true =>
            obtain ⟨kM, hM⟩ := ref_digits_f a0 (by omega) (e1 + 1) (by omega) (Int.le_of_lt hlt2)
            have hleM := runL_le dg (dr a0 (e1 + 1))
            rw [dr_len] at hleM
            obtain ⟨M, hMM⟩ : ∃ M, runL dg (dr a0 (e1 + 1)) = M := ⟨_, rfl⟩
            rw [hMM] at hM hleM
            have hfin : numL (dr a0 a1) = N + 1 + M := by rw [HNUM.out, HNT.out, if_pos ⟨HV2.out.trans HDOT.out, HR3.out.mpr (by rw [HV3.out]; exact hd3)⟩, hMM]
            have HFIN := Aside0.mk hfin
            have HM := Aside0.mk (fun w => whittleref4_digits.calls kM a0 (e1 + 1) (e1 + 1 + M) w hM)
            have HD3 := Aside0.mk (fun w => whittleref4_digit.calls v3 true w (by rw [ref_digit, hd3]))
            clear hM hfin hd3 hMM
            go_wp2_with (first | (go_at_call 33; ((with_reducible refine (HD.out _).mono ?_); rintro e w' ⟨rfl, ⟨nd, rfl⟩⟩)) | (go_at_call 34; ((with_reducible refine (HN.out _).mono ?_); rintro e w' ⟨rfl, ⟨nd, rfl⟩⟩)) | (go_at_call 33; ((with_reducible refine (HD3.out _).mono ?_); rintro e w' ⟨rfl, ⟨nd, rfl⟩⟩)) | (go_at_call 34; ((with_reducible refine (HM.out _).mono ?_); rintro e w' ⟨rfl, ⟨nd, rfl⟩⟩)))
            go_meet
            case rel => exact ⟨e1 + 1 + M, 1, (by first | rfl | (simp; done)), ⟨resR_tok (n := N + 1 + M) h0 (by have := HNL.out; rw [show numL (dr a0 a1) = N + 1 + M from HFIN.out] at this; exact this) hl (by have := HPOS.out; omega) (by decide) (by rw [HS.out, HFIN.out]) HR.out (by have := HE1.out; omega)⟩, ⟨by (with_reducible repeat (first | refine blk_drewN ?_ _ | refine blk_drew ?_ | refine blk_alloc ?_ _)); refine blk_far ?_ NE.out _; (with_reducible repeat (first | refine blk_drewN ?_ _ | refine blk_drew ?_ | refine blk_alloc ?_ _)); exact BK4.out⟩, ⟨by (with_reducible repeat (first | refine blk_drewN ?_ _ | refine blk_drew ?_ | refine blk_alloc ?_ _)); refine blk_put (cs := #[.int .i64 0, .string (⟨#[]⟩ : ByteArray), .int .i64 a1]) ?_ 0 _ rfl; (with_reducible repeat (first | refine blk_drewN ?_ _ | refine blk_drew ?_ | refine blk_alloc ?_ _)); exact BK9.out⟩, ⟨by repeat (first | (with_reducible first | exact HB.out | apply below_alloc | apply pw_below_drewN | apply below_drew1 | refine below_set ?_ GE9.out | refine below_set ?_ GE4.out) | exact HB.out)⟩⟩
          | false =>
            have hfin : numL (dr a0 a1) = N := by rw [HNUM.out, HNT.out, if_neg (fun h => by have := HR3.out.mp h.2; rw [HV3.out, hd3] at this; cases this)]
            have HFIN := Aside0.mk hfin
            have HD3 := Aside0.mk (fun w => whittleref4_digit.calls v3 false w (by rw [ref_digit, hd3]))
            clear hfin hd3
            go_wp2_with (first | (go_at_call 33; ((with_reducible refine (HD.out _).mono ?_); rintro e w' ⟨rfl, ⟨nd, rfl⟩⟩)) | (go_at_call 34; ((with_reducible refine (HN.out _).mono ?_); rintro e w' ⟨rfl, ⟨nd, rfl⟩⟩)) | (go_at_call 33; ((with_reducible refine (HD3.out _).mono ?_); rintro e w' ⟨rfl, ⟨nd, rfl⟩⟩)))
            go_meet
            case rel => exact ⟨e1, 1, (by first | rfl | (simp; done)), ⟨resR_tok (n := N) h0 (by have := HNL.out; rw [show numL (dr a0 a1) = N from HFIN.out] at this; exact this) hl (by have := HPOS.out; omega) (by decide) (by rw [HS.out, HFIN.out]) HR.out (by have := HE1.out; omega)⟩, ⟨by (with_reducible repeat (first | refine blk_drewN ?_ _ | refine blk_drew ?_ | refine blk_alloc ?_ _)); refine blk_far ?_ NE.out _; (with_reducible repeat (first | refine blk_drewN ?_ _ | refine blk_drew ?_ | refine blk_alloc ?_ _)); exact BK4.out⟩, ⟨by (with_reducible repeat (first | refine blk_drewN ?_ _ | refine blk_drew ?_ | refine blk_alloc ?_ _)); refine blk_put (cs := #[.int .i64 0, .string (⟨#[]⟩ : ByteArray), .int .i64 a1]) ?_ 0 _ rfl; (with_reducible repeat (first | refine blk_drewN ?_ _ | refine blk_drew ?_ | refine blk_alloc ?_ _)); exact BK9.out⟩, ⟨by repeat (first | (with_reducible first | exact HB.out | apply below_alloc | apply pw_below_drewN | apply below_drew1 | refine below_set ?_ GE9.out | refine below_set ?_ GE4.out) | exact HB.out)⟩⟩
        · have hdotb : (v2 == 46) = false := beq_eq_false_iff_ne.mpr hdot
          have hfin : numL (dr a0 a1) = N := by rw [HNUM.out, HNT.out, if_neg (fun h => hdot (HV2.out.symm.trans h.1))]
          have HFIN := Aside0.mk hfin
          clear hfin hdot
          go_wp2_with (first | (go_at_call 33; refine (HD.out _).mono ?_; rintro e w' ⟨rfl, ⟨nd, rfl⟩⟩) | (go_at_call 34; refine (HN.out _).mono ?_; rintro e w' ⟨rfl, ⟨nd, rfl⟩⟩))
          go_meet
          case rel => exact ⟨e1, 1, (by first | rfl | (simp; done)), ⟨resR_tok (n := N) h0 (by have := HNL.out; rw [show numL (dr a0 a1) = N from HFIN.out] at this; exact this) hl (by have := HPOS.out; omega) (by decide) (by rw [HS.out, HFIN.out]) HR.out (by have := HE1.out; omega)⟩, ⟨by (with_reducible repeat (first | refine blk_drewN ?_ _ | refine blk_drew ?_ | refine blk_alloc ?_ _)); refine blk_far ?_ NE.out _; (with_reducible repeat (first | refine blk_drewN ?_ _ | refine blk_drew ?_ | refine blk_alloc ?_ _)); exact BK4.out⟩, ⟨by (with_reducible repeat (first | refine blk_drewN ?_ _ | refine blk_drew ?_ | refine blk_alloc ?_ _)); refine blk_put (cs := #[.int .i64 0, .string (⟨#[]⟩ : ByteArray), .int .i64 a1]) ?_ 0 _ rfl; (with_reducible repeat (first | refine blk_drewN ?_ _ | refine blk_drew ?_ | refine blk_alloc ?_ _)); exact BK9.out⟩, ⟨by repeat (first | (with_reducible first | exact HB.out | apply below_alloc | apply pw_below_drewN | apply below_drew1 | refine below_set ?_ GE9.out | refine below_set ?_ GE4.out) | exact HB.out)⟩⟩
      · have hfin : numL (dr a0 a1) = N := by
          rw [HNUM.out]
          have hl1 := dr_len a0 e1
          cases hq : dr a0 e1 with
          | nil => rfl
          | cons y ys =>
            have : ys = [] := List.eq_nil_of_length_eq_zero (by rw [hq] at hl1; simp at hl1; omega)
            subst this
            simp [numTail, runL]
        have HFIN := Aside0.mk hfin
        have hlt2b : decide (e1 + 1 < (a0.size : Int)) = false := decide_eq_false hlt2
        clear hfin
        go_wp2_with (first | (go_at_call 33; refine (HD.out _).mono ?_; rintro e w' ⟨rfl, ⟨nd, rfl⟩⟩) | (go_at_call 34; refine (HN.out _).mono ?_; rintro e w' ⟨rfl, ⟨nd, rfl⟩⟩))
        go_meet
        case rel => exact ⟨e1, 1, (by first | rfl | (simp; done)), ⟨resR_tok (n := N) h0 (by have := HNL.out; rw [show numL (dr a0 a1) = N from HFIN.out] at this; exact this) hl (by have := HPOS.out; omega) (by decide) (by rw [HS.out, HFIN.out]) HR.out (by have := HE1.out; omega)⟩, ⟨by (with_reducible repeat (first | refine blk_drewN ?_ _ | refine blk_drew ?_ | refine blk_alloc ?_ _)); refine blk_far ?_ NE.out _; (with_reducible repeat (first | refine blk_drewN ?_ _ | refine blk_drew ?_ | refine blk_alloc ?_ _)); exact BK4.out⟩, ⟨by (with_reducible repeat (first | refine blk_drewN ?_ _ | refine blk_drew ?_ | refine blk_alloc ?_ _)); refine blk_put (cs := #[.int .i64 0, .string (⟨#[]⟩ : ByteArray), .int .i64 a1]) ?_ 0 _ rfl; (with_reducible repeat (first | refine blk_drewN ?_ _ | refine blk_drew ?_ | refine blk_alloc ?_ _)); exact BK9.out⟩, ⟨by repeat (first | (with_reducible first | exact HB.out | apply below_alloc | apply pw_below_drewN | apply below_drew1 | refine below_set ?_ GE9.out | refine below_set ?_ GE4.out) | exact HB.out)⟩⟩
    | false =>
      have HD := Aside0.mk (fun w => whittleref4_digit.calls c false w (by rw [ref_digit, hd]))
      have HDG := Aside0.mk hd
      clear hd
      by_cases h34 : c = 34
      · have h34b : (c == 34) = true := beq_iff_eq.mpr h34
        have hS : nextS (dr a0 a1) = qTok (dr a0 (a1 + 1)) := by rw [HCB.out]; simp only [nextS]; rw [HC.out, if_neg (by rw [HDG.out]; decide), if_pos h34]
        obtain ⟨kT, hT⟩ := ref_text_f a0 hsz a1 h0 hl
        have hone := HR.out
        unfold oneS at hone
        rw [hS] at hone
        unfold qTok at hone
        unfold txt at hT
        clear h34 hS
        cases hq : qLen (dr a0 (a1 + 1)) with
        | none =>
          rw [hq] at hone hT
          (try simp only at hone hT)
          (try rw [show a1 + ((0 : Nat) : Int) = a1 from by simp] at hone)
          simp only [Prod.mk.injEq] at hone
          obtain ⟨rfl, rfl, rfl, rfl, rfl, rfl⟩ := hone
          have HT := Aside0.mk (fun w => whittleref4_text.calls kT a0 a1 _ _ _ _ w hT)
          clear hT hq
          go_wp2_with (go_at_call 33; refine (HD.out _).mono ?_; rintro e w' ⟨rfl, ⟨nd, rfl⟩⟩)
          refine (HT.out _).mono ?_
          rintro e w5 ⟨rfl, hb5⟩
          have n0_ := Aside0.mk (below_step (by repeat (first | (with_reducible first | exact HB.out | apply below_alloc | apply pw_below_drewN | apply below_drew1 | refine below_set ?_ GE9.out | refine below_set ?_ GE4.out) | exact HB.out)) hb5)
          have n1_ := Aside0.mk (blk_below (g := gb) (o := .cells #[.int .i64 0, .string (⟨#[]⟩ : ByteArray), .int .i64 0] 31 (0, 0)) (by (with_reducible repeat (first | refine blk_drewN ?_ _ | refine blk_drew ?_ | refine blk_alloc ?_ _)); exact BK4.out) hb5)
          have n2_ := Aside0.mk (blk_below (g := gt) (o := .cells #[.int .i64 0, .string (⟨#[]⟩ : ByteArray), .int .i64 a1] 31 (0, 0)) (by (with_reducible repeat (first | refine blk_drewN ?_ _ | refine blk_drew ?_ | refine blk_alloc ?_ _)); exact BK9.out) hb5)
          clear HB BK4 BK9 hb5 hz_0 hz_1 hz_2 fhz_0 fhz_1 fhz_2 hy_0 hy_1 hy_2 fhy_0 fhy_1 fhy_2
          have HB := n0_
          have BK4 := n1_
          have BK9 := n2_
          clear n0_ n1_ n2_
          have hz_0 : w5.cell? ⟨gt, 0, none⟩ = some (.int .i64 0) := (blk_cell BK9.out 0).trans rfl
          have hz_1 : w5.cell? ⟨gt, 1, none⟩ = some (.string (⟨#[]⟩ : ByteArray)) := (blk_cell BK9.out 1).trans rfl
          have hz_2 : w5.cell? ⟨gt, 2, none⟩ = some (.int .i64 a1) := (blk_cell BK9.out 2).trans rfl
          have fhz_0 := blk_frozen BK9.out 0
          have fhz_1 := blk_frozen BK9.out 1
          have fhz_2 := blk_frozen BK9.out 2
          have hy_0 : w5.cell? ⟨gb, 0, none⟩ = some (.int .i64 0) := (blk_cell BK4.out 0).trans rfl
          have hy_1 : w5.cell? ⟨gb, 1, none⟩ = some (.string (⟨#[]⟩ : ByteArray)) := (blk_cell BK4.out 1).trans rfl
          have hy_2 : w5.cell? ⟨gb, 2, none⟩ = some (.int .i64 0) := (blk_cell BK4.out 2).trans rfl
          have fhy_0 := blk_frozen BK4.out 0
          have fhy_1 := blk_frozen BK4.out 1
          have fhy_2 := blk_frozen BK4.out 2
          go_wp2
          refine bodyPost_ret (results_list (rs := [.cell 4 31, .tmp 5, .tmp 6, .tmp 7]) rfl (by simp) (.cell gb 31 #[.int .i64 0, .string (⟨#[]⟩ : ByteArray), .int .i64 a1] (0, 0) _ rfl (by (with_reducible repeat (first | refine blk_drewN ?_ _ | refine blk_drew ?_ | refine blk_alloc ?_ _)); refine blk_put (cs := #[.int .i64 0, .string (⟨#[]⟩ : ByteArray), .int .i64 0]) ?_ 2 _ rfl; (with_reducible repeat (first | refine blk_drewN ?_ _ | refine blk_drew ?_ | refine blk_alloc ?_ _)); refine blk_put (cs := #[.int .i64 0, .string (⟨#[]⟩ : ByteArray), .int .i64 0]) ?_ 1 _ rfl; (with_reducible repeat (first | refine blk_drewN ?_ _ | refine blk_drew ?_ | refine blk_alloc ?_ _)); refine blk_put (cs := #[.int .i64 0, .string (⟨#[]⟩ : ByteArray), .int .i64 0]) ?_ 0 _ rfl; (with_reducible repeat (first | refine blk_drewN ?_ _ | refine blk_drew ?_ | refine blk_alloc ?_ _)); exact BK4.out) hu31 rfl (by kernel_rfl) (.tmp (.tmp (.tmp .nil))))) rfl ?_
          exact ⟨by first | rfl | (simp; done) | (simp [*]; done), by repeat (first | (with_reducible first | exact HB.out | apply below_alloc | apply pw_below_drewN | apply below_drew1 | refine below_set ?_ GE9.out | refine below_set ?_ GE4.out) | exact HB.out)⟩
        | some m =>
          rw [hq] at hone hT
          by_cases hbad : okL (dr a0 (a1 + 1)) < m
          · simp only [if_pos hbad, show ((-1 : Int) < 0) from by decide, if_true] at hone hT
            rw [show a1 + 1 + (okL (dr a0 (a1 + 1)) : Int) = a1 + ((okL (dr a0 (a1 + 1)) + 1 : Nat) : Int) from by omega] at hT
            (try simp only at hone hT)
            (try rw [show a1 + ((0 : Nat) : Int) = a1 from by simp] at hone)
            simp only [Prod.mk.injEq] at hone
            obtain ⟨rfl, rfl, rfl, rfl, rfl, rfl⟩ := hone
            have HT := Aside0.mk (fun w => whittleref4_text.calls kT a0 a1 _ _ _ _ w hT)
            clear hT hq
            go_wp2_with (go_at_call 33; refine (HD.out _).mono ?_; rintro e w' ⟨rfl, ⟨nd, rfl⟩⟩)
            refine (HT.out _).mono ?_
            rintro e w5 ⟨rfl, hb5⟩
            have n0_ := Aside0.mk (below_step (by repeat (first | (with_reducible first | exact HB.out | apply below_alloc | apply pw_below_drewN | apply below_drew1 | refine below_set ?_ GE9.out | refine below_set ?_ GE4.out) | exact HB.out)) hb5)
            have n1_ := Aside0.mk (blk_below (g := gb) (o := .cells #[.int .i64 0, .string (⟨#[]⟩ : ByteArray), .int .i64 0] 31 (0, 0)) (by (with_reducible repeat (first | refine blk_drewN ?_ _ | refine blk_drew ?_ | refine blk_alloc ?_ _)); exact BK4.out) hb5)
            have n2_ := Aside0.mk (blk_below (g := gt) (o := .cells #[.int .i64 0, .string (⟨#[]⟩ : ByteArray), .int .i64 a1] 31 (0, 0)) (by (with_reducible repeat (first | refine blk_drewN ?_ _ | refine blk_drew ?_ | refine blk_alloc ?_ _)); exact BK9.out) hb5)
            clear HB BK4 BK9 hb5 hz_0 hz_1 hz_2 fhz_0 fhz_1 fhz_2 hy_0 hy_1 hy_2 fhy_0 fhy_1 fhy_2
            have HB := n0_
            have BK4 := n1_
            have BK9 := n2_
            clear n0_ n1_ n2_
            have hz_0 : w5.cell? ⟨gt, 0, none⟩ = some (.int .i64 0) := (blk_cell BK9.out 0).trans rfl
            have hz_1 : w5.cell? ⟨gt, 1, none⟩ = some (.string (⟨#[]⟩ : ByteArray)) := (blk_cell BK9.out 1).trans rfl
            have hz_2 : w5.cell? ⟨gt, 2, none⟩ = some (.int .i64 a1) := (blk_cell BK9.out 2).trans rfl
            have fhz_0 := blk_frozen BK9.out 0
            have fhz_1 := blk_frozen BK9.out 1
            have fhz_2 := blk_frozen BK9.out 2
            have hy_0 : w5.cell? ⟨gb, 0, none⟩ = some (.int .i64 0) := (blk_cell BK4.out 0).trans rfl
            have hy_1 : w5.cell? ⟨gb, 1, none⟩ = some (.string (⟨#[]⟩ : ByteArray)) := (blk_cell BK4.out 1).trans rfl
            have hy_2 : w5.cell? ⟨gb, 2, none⟩ = some (.int .i64 0) := (blk_cell BK4.out 2).trans rfl
            have fhy_0 := blk_frozen BK4.out 0
            have fhy_1 := blk_frozen BK4.out 1
            have fhy_2 := blk_frozen BK4.out 2
            go_wp2
            refine bodyPost_ret (results_list (rs := [.cell 4 31, .tmp 5, .tmp 6, .tmp 7]) rfl (by simp) (.cell gb 31 #[.int .i64 0, .string (⟨#[]⟩ : ByteArray), .int .i64 a1] (0, 0) _ rfl (by (with_reducible repeat (first | refine blk_drewN ?_ _ | refine blk_drew ?_ | refine blk_alloc ?_ _)); refine blk_put (cs := #[.int .i64 0, .string (⟨#[]⟩ : ByteArray), .int .i64 0]) ?_ 2 _ rfl; (with_reducible repeat (first | refine blk_drewN ?_ _ | refine blk_drew ?_ | refine blk_alloc ?_ _)); refine blk_put (cs := #[.int .i64 0, .string (⟨#[]⟩ : ByteArray), .int .i64 0]) ?_ 1 _ rfl; (with_reducible repeat (first | refine blk_drewN ?_ _ | refine blk_drew ?_ | refine blk_alloc ?_ _)); refine blk_put (cs := #[.int .i64 0, .string (⟨#[]⟩ : ByteArray), .int .i64 0]) ?_ 0 _ rfl; (with_reducible repeat (first | refine blk_drewN ?_ _ | refine blk_drew ?_ | refine blk_alloc ?_ _)); exact BK4.out) hu31 rfl (by kernel_rfl) (.tmp (.tmp (.tmp .nil))))) rfl ?_
            exact ⟨by first | rfl | (simp; done) | (simp [*]; done), by repeat (first | (with_reducible first | exact HB.out | apply below_alloc | apply pw_below_drewN | apply below_drew1 | refine below_set ?_ GE9.out | refine below_set ?_ GE4.out) | exact HB.out)⟩
          · simp only [if_neg hbad, show ((-1 : Int) < 0) from by decide, if_true, List.nil_append] at hone hT
            rw [strOf_bytes, show a1 + 1 + (m : Int) = a1 + ((m + 1 : Nat) : Int) from by omega] at hT
            (try simp only at hone hT)
            (try rw [show a1 + ((0 : Nat) : Int) = a1 from by simp] at hone)
            simp only [Prod.mk.injEq] at hone
            obtain ⟨rfl, rfl, rfl, rfl, rfl, rfl⟩ := hone
            have HT := Aside0.mk (fun w => whittleref4_text.calls kT a0 a1 _ _ _ _ w hT)
            clear hT hq
            go_wp2_with (go_at_call 33; refine (HD.out _).mono ?_; rintro e w' ⟨rfl, ⟨nd, rfl⟩⟩)
            refine (HT.out _).mono ?_
            rintro e w5 ⟨rfl, hb5⟩
            have n0_ := Aside0.mk (below_step (by repeat (first | (with_reducible first | exact HB.out | apply below_alloc | apply pw_below_drewN | apply below_drew1 | refine below_set ?_ GE9.out | refine below_set ?_ GE4.out) | exact HB.out)) hb5)
            have n1_ := Aside0.mk (blk_below (g := gb) (o := .cells #[.int .i64 0, .string (⟨#[]⟩ : ByteArray), .int .i64 0] 31 (0, 0)) (by (with_reducible repeat (first | refine blk_drewN ?_ _ | refine blk_drew ?_ | refine blk_alloc ?_ _)); exact BK4.out) hb5)
            have n2_ := Aside0.mk (blk_below (g := gt) (o := .cells #[.int .i64 0, .string (⟨#[]⟩ : ByteArray), .int .i64 a1] 31 (0, 0)) (by (with_reducible repeat (first | refine blk_drewN ?_ _ | refine blk_drew ?_ | refine blk_alloc ?_ _)); exact BK9.out) hb5)
            clear HB BK4 BK9 hb5 hz_0 hz_1 hz_2 fhz_0 fhz_1 fhz_2 hy_0 hy_1 hy_2 fhy_0 fhy_1 fhy_2
            have HB := n0_
            have BK4 := n1_
            have BK9 := n2_
            clear n0_ n1_ n2_
            have hz_0 : w5.cell? ⟨gt, 0, none⟩ = some (.int .i64 0) := (blk_cell BK9.out 0).trans rfl
            have hz_1 : w5.cell? ⟨gt, 1, none⟩ = some (.string (⟨#[]⟩ : ByteArray)) := (blk_cell BK9.out 1).trans rfl
            have hz_2 : w5.cell? ⟨gt, 2, none⟩ = some (.int .i64 a1) := (blk_cell BK9.out 2).trans rfl
            have fhz_0 := blk_frozen BK9.out 0
            have fhz_1 := blk_frozen BK9.out 1
            have fhz_2 := blk_frozen BK9.out 2
            have hy_0 : w5.cell? ⟨gb, 0, none⟩ = some (.int .i64 0) := (blk_cell BK4.out 0).trans rfl
            have hy_1 : w5.cell? ⟨gb, 1, none⟩ = some (.string (⟨#[]⟩ : ByteArray)) := (blk_cell BK4.out 1).trans rfl
            have hy_2 : w5.cell? ⟨gb, 2, none⟩ = some (.int .i64 0) := (blk_cell BK4.out 2).trans rfl
            have fhy_0 := blk_frozen BK4.out 0
            have fhy_1 := blk_frozen BK4.out 1
            have fhy_2 := blk_frozen BK4.out 2
            have hne1 : (gb = gt) = False := eq_false NE.out
            have hne2 : (gt = gb) = False := eq_false (fun h => NE.out h.symm)
            go_wp2
            refine bodyPost_ret (results_list (rs := [.cell 4 31, .tmp 5, .tmp 6, .tmp 7]) rfl (by simp) (.cell gb 31 #[.int .i64 2, .string (⟨(qSaid (dr a0 (a1 + 1))).toArray⟩ : ByteArray), .int .i64 a1] (0, 0) _ rfl (by (with_reducible repeat (first | refine blk_drewN ?_ _ | refine blk_drew ?_ | refine blk_alloc ?_ _)); refine blk_put (cs := #[.int .i64 2, .string (⟨(qSaid (dr a0 (a1 + 1))).toArray⟩ : ByteArray), .int .i64 0]) ?_ 2 _ rfl; (with_reducible repeat (first | refine blk_drewN ?_ _ | refine blk_drew ?_ | refine blk_alloc ?_ _)); refine blk_put (cs := #[.int .i64 2, .string (⟨#[]⟩ : ByteArray), .int .i64 0]) ?_ 1 _ rfl; (with_reducible repeat (first | refine blk_drewN ?_ _ | refine blk_drew ?_ | refine blk_alloc ?_ _)); refine blk_put (cs := #[.int .i64 0, .string (⟨#[]⟩ : ByteArray), .int .i64 0]) ?_ 0 _ rfl; (with_reducible repeat (first | refine blk_drewN ?_ _ | refine blk_drew ?_ | refine blk_alloc ?_ _)); refine blk_far ?_ NE.out _; (with_reducible repeat (first | refine blk_drewN ?_ _ | refine blk_drew ?_ | refine blk_alloc ?_ _)); refine blk_far ?_ NE.out _; (with_reducible repeat (first | refine blk_drewN ?_ _ | refine blk_drew ?_ | refine blk_alloc ?_ _)); exact BK4.out) hu31 rfl (by kernel_rfl) (.tmp (.tmp (.tmp .nil))))) rfl ?_
            exact ⟨by first | rfl | (simp; done) | (simp [*]; done), by repeat (first | (with_reducible first | exact HB.out | apply below_alloc | apply pw_below_drewN | apply below_drew1 | refine below_set ?_ GE9.out | refine below_set ?_ GE4.out) | exact HB.out)⟩
      · have h34b : (c == 34) = false := beq_eq_false_iff_ne.mpr h34
        clear h34
        cases hlc : lt c with
        | true =>
          have hS : nextS (dr a0 a1) = tokN 3 (dr a0 a1) (runL wd (dr a0 a1)) := by rw [HCB.out]; simp only [nextS]; rw [HC.out, if_neg (by rw [HDG.out]; decide), if_neg (by simpa using h34b), if_pos (by simp [hlc])]
          have hws : (runL wd (dr a0 a1) : Int) = (runL wd (dr a0 (a1 + 1)) : Int) + 1 := by rw [HCB.out]; simp only [runL]; rw [HC.out, if_pos (by simp [wd, hlc])]; simp
          have HS := Aside0.mk hS
          have HWS := Aside0.mk hws
          clear hS hws
          have HL := Aside0.mk (fun w => whittleref4_letter.calls c true w (by rw [ref_letter, hlc]))
          clear hlc
          go_wp2_with (first | (go_at_call 33; refine (HD.out _).mono ?_; rintro e w' ⟨rfl, ⟨nd, rfl⟩⟩) | (go_at_call 36; refine (HL.out _).mono ?_; rintro e w' ⟨rfl, ⟨nd, rfl⟩⟩))
          go_loopw [10] (fun v10 wr => ∃ x : Int, v10 = .int .i64 x ∧ Aside0 (a1 < x) ∧ Aside0 (x ≤ (a0.size : Int)) ∧ Aside0 (x - a1 + (runL wd (dr a0 x) : Int) = (runL wd (dr a0 a1) : Int)) ∧ Aside0 (wr.heap[gb]? = some (.cells #[.int .i64 0, .string (⟨#[]⟩ : ByteArray), .int .i64 0] 31 (0, 0))) ∧ Aside0 (wr.heap[gt]? = some (.cells #[.int .i64 3, .string (⟨#[]⟩ : ByteArray), .int .i64 a1] 31 (0, 0))) ∧ Aside0 (Below w.heap.size w wr)) (fun v10 _ => a0.size - (intOf v10).toNat)
          case atStart => exact ⟨a1 + 1, by first | rfl | (simp; done), ⟨by omega⟩, ⟨by omega⟩, ⟨by rw [HWS.out]; omega⟩, ⟨by (with_reducible repeat (first | refine blk_drewN ?_ _ | refine blk_drew ?_ | refine blk_alloc ?_ _)); refine blk_far ?_ NE.out _; (with_reducible repeat (first | refine blk_drewN ?_ _ | refine blk_drew ?_ | refine blk_alloc ?_ _)); exact BK4.out⟩, ⟨by (with_reducible repeat (first | refine blk_drewN ?_ _ | refine blk_drew ?_ | refine blk_alloc ?_ _)); refine blk_put (cs := #[.int .i64 0, .string (⟨#[]⟩ : ByteArray), .int .i64 a1]) ?_ 0 _ rfl; (with_reducible repeat (first | refine blk_drewN ?_ _ | refine blk_drew ?_ | refine blk_alloc ?_ _)); exact BK9.out⟩, ⟨by repeat (first | (with_reducible first | exact HB.out | apply below_alloc | apply pw_below_drewN | apply below_drew1 | refine below_set ?_ GE9.out | refine below_set ?_ GE4.out) | exact HB.out)⟩⟩
          case round =>
            clear HB BK4 BK9 HD HL
            obtain ⟨x, rfl, HX0, HX1, HXA, BK4, BK9, HB⟩ := hrel
            have hxa := HX0.out
            have hxb := HX1.out
            by_cases hxl : x < (a0.size : Int)
            · have hx0 : 0 ≤ x := by omega
              obtain ⟨cx, hcx, hbx⟩ := dr_cons hx0 hxl
              have hxe : ((a0[x.toNat]'(by omega)).toNat : Int) = (cx.toNat : Int) := (bt_at a0 x (by omega)).trans hbx
              have hge2 : 0 ≤ (cx.toNat : Int) := by omega
              obtain ⟨vx, hvx⟩ : ∃ v : Int, (cx.toNat : Int) = v := ⟨_, rfl⟩
              rw [hvx] at hxe
              have hrun : (runL wd (dr a0 x) : Int) = if wd vx = true then (runL wd (dr a0 (x + 1)) : Int) + 1 else 0 := by rw [hcx]; simp only [runL]; rw [hvx]; split <;> simp
              have HRUN := Aside0.mk hrun
              clear hrun hbx hvx hcx hge2
              have hxlb : decide (x < (a0.size : Int)) = true := decide_eq_true hxl
              have hxlc : (x < (a0.size : Int)) = True := eq_true hxl
              have hx0c : (0 ≤ x) = True := eq_true hx0
              have hwx : IntKind.i64.wrap (x + 1) = x + 1 := by rw [IntKind.wrap_i64]; omega
              cases hlx : lt vx with
              | true =>
                have HLx := Aside0.mk (fun w => whittleref4_letter.calls vx true w (by rw [ref_letter, hlx]))
                have HW := Aside0.mk (show wd vx = true from by simp [wd, hlx])
                clear hlx
                go_wp2_with (first | (go_at_call 36; ((with_reducible refine (HLx.out _).mono ?_); rintro e w' ⟨rfl, ⟨nd, rfl⟩⟩)))
                go_roundw
                case measure => simp [intOf]; omega
                case rel => exact ⟨x + 1, (by first | rfl | (simp; done)), ⟨by omega⟩, ⟨by have := of_eq_true hxlc; omega⟩, ⟨by have h1 := HXA.out; have h2 := HRUN.out; rw [if_pos HW.out] at h2; omega⟩, ⟨by (with_reducible repeat (first | refine blk_drewN ?_ _ | refine blk_drew ?_ | refine blk_alloc ?_ _)); exact BK4.out⟩, ⟨by (with_reducible repeat (first | refine blk_drewN ?_ _ | refine blk_drew ?_ | refine blk_alloc ?_ _)); exact BK9.out⟩, ⟨by repeat (first | (with_reducible first | exact HB.out | apply below_alloc | apply pw_below_drewN | apply below_drew1 | refine below_set ?_ GE9.out | refine below_set ?_ GE4.out) | exact HB.out)⟩⟩
              | false =>
                have HLx := Aside0.mk (fun w => whittleref4_letter.calls vx false w (by rw [ref_letter, hlx]))
                cases hdx : dg vx with
                | true =>
                  have HDx := Aside0.mk (fun w => whittleref4_digit.calls vx true w (by rw [ref_digit, hdx]))
                  have HW := Aside0.mk (show wd vx = true from by simp [wd, hdx])
                  clear hlx hdx
                  go_wp2_with (first | (go_at_call 36; ((with_reducible refine (HLx.out _).mono ?_); rintro e w' ⟨rfl, ⟨nd, rfl⟩⟩)) | (go_at_call 33; ((with_reducible refine (HDx.out _).mono ?_); rintro e w' ⟨rfl, ⟨nd, rfl⟩⟩)))
                  go_roundw
                  case measure => simp [intOf]; omega
                  case rel => exact ⟨x + 1, (by first | rfl | (simp; done)), ⟨by omega⟩, ⟨by have := of_eq_true hxlc; omega⟩, ⟨by have h1 := HXA.out; have h2 := HRUN.out; rw [if_pos HW.out] at h2; omega⟩, ⟨by (with_reducible repeat (first | refine blk_drewN ?_ _ | refine blk_drew ?_ | refine blk_alloc ?_ _)); exact BK4.out⟩, ⟨by (with_reducible repeat (first | refine blk_drewN ?_ _ | refine blk_drew ?_ | refine blk_alloc ?_ _)); exact BK9.out⟩, ⟨by repeat (first | (with_reducible first | exact HB.out | apply below_alloc | apply pw_below_drewN | apply below_drew1 | refine below_set ?_ GE9.out | refine below_set ?_ GE4.out) | exact HB.out)⟩⟩
                | false =>
                  have HDx := Aside0.mk (fun w => whittleref4_digit.calls vx false w (by rw [ref_digit, hdx]))
                  by_cases h36x : vx = 36
                  · have h36xb : (vx == 36) = true := beq_iff_eq.mpr h36x
                    have HW := Aside0.mk (show wd vx = true from by simp [wd, h36x])
                    clear hlx hdx h36x
                    go_wp2_with (first | (go_at_call 36; ((with_reducible refine (HLx.out _).mono ?_); rintro e w' ⟨rfl, ⟨nd, rfl⟩⟩)) | (go_at_call 33; ((with_reducible refine (HDx.out _).mono ?_); rintro e w' ⟨rfl, ⟨nd, rfl⟩⟩)))
                    go_roundw
                    case measure => simp [intOf]; omega
                    case rel => exact ⟨x + 1, (by first | rfl | (simp; done)), ⟨by omega⟩, ⟨by have := of_eq_true hxlc; omega⟩, ⟨by have h1 := HXA.out; have h2 := HRUN.out; rw [if_pos HW.out] at h2; omega⟩, ⟨by (with_reducible repeat (first | refine blk_drewN ?_ _ | refine blk_drew ?_ | refine blk_alloc ?_ _)); exact BK4.out⟩, ⟨by (with_reducible repeat (first | refine blk_drewN ?_ _ | refine blk_drew ?_ | refine blk_alloc ?_ _)); exact BK9.out⟩, ⟨by repeat (first | (with_reducible first | exact HB.out | apply below_alloc | apply pw_below_drewN | apply below_drew1 | refine below_set ?_ GE9.out | refine below_set ?_ GE4.out) | exact HB.out)⟩⟩
                  · have h36xb : (vx == 36) = false := beq_eq_false_iff_ne.mpr h36x
                    have HW := Aside0.mk (show wd vx = false from by simp [wd, hlx, hdx, h36x])
                    clear hlx hdx h36x
                    go_wp2_with (first | (go_at_call 36; ((with_reducible refine (HLx.out _).mono ?_); rintro e w' ⟨rfl, ⟨nd, rfl⟩⟩)) | (go_at_call 33; ((with_reducible refine (HDx.out _).mono ?_); rintro e w' ⟨rfl, ⟨nd, rfl⟩⟩)))
                    go_meet
                    case rel => exact ⟨x, 3, (by first | rfl | (simp; done)), ⟨resR_tok (n := runL wd (dr a0 a1)) h0 (runL_le _ _) hl (by have := HXA.out; omega) (by decide) HS.out HR.out (by have h1 := HXA.out; have h2 := HRUN.out; rw [HW.out, if_neg (by decide)] at h2; omega)⟩, ⟨by (with_reducible repeat (first | refine blk_drewN ?_ _ | refine blk_drew ?_ | refine blk_alloc ?_ _)); exact BK4.out⟩, ⟨by (with_reducible repeat (first | refine blk_drewN ?_ _ | refine blk_drew ?_ | refine blk_alloc ?_ _)); exact BK9.out⟩, ⟨by repeat (first | (with_reducible first | exact HB.out | apply below_alloc | apply pw_below_drewN | apply below_drew1 | refine below_set ?_ GE9.out | refine below_set ?_ GE4.out) | exact HB.out)⟩⟩
            · have hxe : x = (a0.size : Int) := by omega
              have HXE := Aside0.mk hxe
              have hxlb : decide (x < (a0.size : Int)) = false := decide_eq_false hxl
              clear hxe
              go_wp2
              go_meet
              case rel => exact ⟨x, 3, (by first | rfl | (simp; done)), ⟨resR_tok (n := runL wd (dr a0 a1)) h0 (runL_le _ _) hl (by have h1 := HXA.out; have h2 := HX0.out; omega) (by decide) HS.out HR.out (by have h1 := HXA.out; rw [dr_nil (by have := HXE.out; omega)] at h1; simp [runL] at h1; omega)⟩, ⟨by (with_reducible repeat (first | refine blk_drewN ?_ _ | refine blk_drew ?_ | refine blk_alloc ?_ _)); exact BK4.out⟩, ⟨by (with_reducible repeat (first | refine blk_drewN ?_ _ | refine blk_drew ?_ | refine blk_alloc ?_ _)); exact BK9.out⟩, ⟨by repeat (first | (with_reducible first | exact HB.out | apply below_alloc | apply pw_below_drewN | apply below_drew1 | refine below_set ?_ GE9.out | refine below_set ?_ GE4.out) | exact HB.out)⟩⟩
        | false =>
          have HL := Aside0.mk (fun w => whittleref4_letter.calls c false w (by rw [ref_letter, hlc]))
          by_cases h36 : c = 36
          · have h36b : (c == 36) = true := beq_iff_eq.mpr h36
            have hS : nextS (dr a0 a1) = tokN 3 (dr a0 a1) (runL wd (dr a0 a1)) := by rw [HCB.out]; simp only [nextS]; rw [HC.out, if_neg (by rw [HDG.out]; decide), if_neg (by simpa using h34b), if_pos (by simp [hlc, h36])]
            have hws : (runL wd (dr a0 a1) : Int) = (runL wd (dr a0 (a1 + 1)) : Int) + 1 := by rw [HCB.out]; simp only [runL]; rw [HC.out, if_pos (by simp [wd, hlc, h36])]; simp
            have HS := Aside0.mk hS
            have HWS := Aside0.mk hws
            clear hS hws
            clear hlc h36
            go_wp2_with (first | (go_at_call 33; refine (HD.out _).mono ?_; rintro e w' ⟨rfl, ⟨nd, rfl⟩⟩) | (go_at_call 36; refine (HL.out _).mono ?_; rintro e w' ⟨rfl, ⟨nd, rfl⟩⟩))
            go_loopw [10] (fun v10 wr => ∃ x : Int, v10 = .int .i64 x ∧ Aside0 (a1 < x) ∧ Aside0 (x ≤ (a0.size : Int)) ∧ Aside0 (x - a1 + (runL wd (dr a0 x) : Int) = (runL wd (dr a0 a1) : Int)) ∧ Aside0 (wr.heap[gb]? = some (.cells #[.int .i64 0, .string (⟨#[]⟩ : ByteArray), .int .i64 0] 31 (0, 0))) ∧ Aside0 (wr.heap[gt]? = some (.cells #[.int .i64 3, .string (⟨#[]⟩ : ByteArray), .int .i64 a1] 31 (0, 0))) ∧ Aside0 (Below w.heap.size w wr)) (fun v10 _ => a0.size - (intOf v10).toNat)
            case atStart => exact ⟨a1 + 1, by first | rfl | (simp; done), ⟨by omega⟩, ⟨by omega⟩, ⟨by rw [HWS.out]; omega⟩, ⟨by (with_reducible repeat (first | refine blk_drewN ?_ _ | refine blk_drew ?_ | refine blk_alloc ?_ _)); refine blk_far ?_ NE.out _; (with_reducible repeat (first | refine blk_drewN ?_ _ | refine blk_drew ?_ | refine blk_alloc ?_ _)); exact BK4.out⟩, ⟨by (with_reducible repeat (first | refine blk_drewN ?_ _ | refine blk_drew ?_ | refine blk_alloc ?_ _)); refine blk_put (cs := #[.int .i64 0, .string (⟨#[]⟩ : ByteArray), .int .i64 a1]) ?_ 0 _ rfl; (with_reducible repeat (first | refine blk_drewN ?_ _ | refine blk_drew ?_ | refine blk_alloc ?_ _)); exact BK9.out⟩, ⟨by repeat (first | (with_reducible first | exact HB.out | apply below_alloc | apply pw_below_drewN | apply below_drew1 | refine below_set ?_ GE9.out | refine below_set ?_ GE4.out) | exact HB.out)⟩⟩
            case round =>
              clear HB BK4 BK9 HD HL
              obtain ⟨x, rfl, HX0, HX1, HXA, BK4, BK9, HB⟩ := hrel
              have hxa := HX0.out
              have hxb := HX1.out
              by_cases hxl : x < (a0.size : Int)
              · have hx0 : 0 ≤ x := by omega
                obtain ⟨cx, hcx, hbx⟩ := dr_cons hx0 hxl
                have hxe : ((a0[x.toNat]'(by omega)).toNat : Int) = (cx.toNat : Int) := (bt_at a0 x (by omega)).trans hbx
                have hge2 : 0 ≤ (cx.toNat : Int) := by omega
                obtain ⟨vx, hvx⟩ : ∃ v : Int, (cx.toNat : Int) = v := ⟨_, rfl⟩
                rw [hvx] at hxe
                have hrun : (runL wd (dr a0 x) : Int) = if wd vx = true then (runL wd (dr a0 (x + 1)) : Int) + 1 else 0 := by rw [hcx]; simp only [runL]; rw [hvx]; split <;> simp
                have HRUN := Aside0.mk hrun
                clear hrun hbx hvx hcx hge2
                have hxlb : decide (x < (a0.size : Int)) = true := decide_eq_true hxl
                have hxlc : (x < (a0.size : Int)) = True := eq_true hxl
                have hx0c : (0 ≤ x) = True := eq_true hx0
                have hwx : IntKind.i64.wrap (x + 1) = x + 1 := by rw [IntKind.wrap_i64]; omega
                cases hlx : lt vx with
                | true =>
                  have HLx := Aside0.mk (fun w => whittleref4_letter.calls vx true w (by rw [ref_letter, hlx]))
                  have HW := Aside0.mk (show wd vx = true from by simp [wd, hlx])
                  clear hlx
                  go_wp2_with (first | (go_at_call 36; ((with_reducible refine (HLx.out _).mono ?_); rintro e w' ⟨rfl, ⟨nd, rfl⟩⟩)))
                  go_roundw
                  case measure => simp [intOf]; omega
                  case rel => exact ⟨x + 1, (by first | rfl | (simp; done)), ⟨by omega⟩, ⟨by have := of_eq_true hxlc; omega⟩, ⟨by have h1 := HXA.out; have h2 := HRUN.out; rw [if_pos HW.out] at h2; omega⟩, ⟨by (with_reducible repeat (first | refine blk_drewN ?_ _ | refine blk_drew ?_ | refine blk_alloc ?_ _)); exact BK4.out⟩, ⟨by (with_reducible repeat (first | refine blk_drewN ?_ _ | refine blk_drew ?_ | refine blk_alloc ?_ _)); exact BK9.out⟩, ⟨by repeat (first | (with_reducible first | exact HB.out | apply below_alloc | apply pw_below_drewN | apply below_drew1 | refine below_set ?_ GE9.out | refine below_set ?_ GE4.out) | exact HB.out)⟩⟩
                | false =>
                  have HLx := Aside0.mk (fun w => whittleref4_letter.calls vx false w (by rw [ref_letter, hlx]))
                  cases hdx : dg vx with
                  | true =>
                    have HDx := Aside0.mk (fun w => whittleref4_digit.calls vx true w (by rw [ref_digit, hdx]))
                    have HW := Aside0.mk (show wd vx = true from by simp [wd, hdx])
                    clear hlx hdx
                    go_wp2_with (first | (go_at_call 36; ((with_reducible refine (HLx.out _).mono ?_); rintro e w' ⟨rfl, ⟨nd, rfl⟩⟩)) | (go_at_call 33; ((with_reducible refine (HDx.out _).mono ?_); rintro e w' ⟨rfl, ⟨nd, rfl⟩⟩)))
                    go_roundw
                    case measure => simp [intOf]; omega
                    case rel => exact ⟨x + 1, (by first | rfl | (simp; done)), ⟨by omega⟩, ⟨by have := of_eq_true hxlc; omega⟩, ⟨by have h1 := HXA.out; have h2 := HRUN.out; rw [if_pos HW.out] at h2; omega⟩, ⟨by (with_reducible repeat (first | refine blk_drewN ?_ _ | refine blk_drew ?_ | refine blk_alloc ?_ _)); exact BK4.out⟩, ⟨by (with_reducible repeat (first | refine blk_drewN ?_ _ | refine blk_drew ?_ | refine blk_alloc ?_ _)); exact BK9.out⟩, ⟨by repeat (first | (with_reducible first | exact HB.out | apply below_alloc | apply pw_below_drewN | apply below_drew1 | refine below_set ?_ GE9.out | refine below_set ?_ GE4.out) | exact HB.out)⟩⟩
                  | false =>
                    have HDx := Aside0.mk (fun w => whittleref4_digit.calls vx false w (by rw [ref_digit, hdx]))
                    by_cases h36x : vx = 36
                    · have h36xb : (vx == 36) = true := beq_iff_eq.mpr h36x
                      have HW := Aside0.mk (show wd vx = true from by simp [wd, h36x])
                      clear hlx hdx h36x
                      go_wp2_with (first | (go_at_call 36; ((with_reducible refine (HLx.out _).mono ?_); rintro e w' ⟨rfl, ⟨nd, rfl⟩⟩)) | (go_at_call 33; ((with_reducible refine (HDx.out _).mono ?_); rintro e w' ⟨rfl, ⟨nd, rfl⟩⟩)))
                      go_roundw
                      case measure => simp [intOf]; omega
                      case rel => exact ⟨x + 1, (by first | rfl | (simp; done)), ⟨by omega⟩, ⟨by have := of_eq_true hxlc; omega⟩, ⟨by have h1 := HXA.out; have h2 := HRUN.out; rw [if_pos HW.out] at h2; omega⟩, ⟨by (with_reducible repeat (first | refine blk_drewN ?_ _ | refine blk_drew ?_ | refine blk_alloc ?_ _)); exact BK4.out⟩, ⟨by (with_reducible repeat (first | refine blk_drewN ?_ _ | refine blk_drew ?_ | refine blk_alloc ?_ _)); exact BK9.out⟩, ⟨by repeat (first | (with_reducible first | exact HB.out | apply below_alloc | apply pw_below_drewN | apply below_drew1 | refine below_set ?_ GE9.out | refine below_set ?_ GE4.out) | exact HB.out)⟩⟩
                    · have h36xb : (vx == 36) = false := beq_eq_false_iff_ne.mpr h36x
                      have HW := Aside0.mk (show wd vx = false from by simp [wd, hlx, hdx, h36x])
                      clear hlx hdx h36x
                      go_wp2_with (first | (go_at_call 36; ((with_reducible refine (HLx.out _).mono ?_); rintro e w' ⟨rfl, ⟨nd, rfl⟩⟩)) | (go_at_call 33; ((with_reducible refine (HDx.out _).mono ?_); rintro e w' ⟨rfl, ⟨nd, rfl⟩⟩)))
                      go_meet
                      case rel => exact ⟨x, 3, (by first | rfl | (simp; done)), ⟨resR_tok (n := runL wd (dr a0 a1)) h0 (runL_le _ _) hl (by have := HXA.out; omega) (by decide) HS.out HR.out (by have h1 := HXA.out; have h2 := HRUN.out; rw [HW.out, if_neg (by decide)] at h2; omega)⟩, ⟨by (with_reducible repeat (first | refine blk_drewN ?_ _ | refine blk_drew ?_ | refine blk_alloc ?_ _)); exact BK4.out⟩, ⟨by (with_reducible repeat (first | refine blk_drewN ?_ _ | refine blk_drew ?_ | refine blk_alloc ?_ _)); exact BK9.out⟩, ⟨by repeat (first | (with_reducible first | exact HB.out | apply below_alloc | apply pw_below_drewN | apply below_drew1 | refine below_set ?_ GE9.out | refine below_set ?_ GE4.out) | exact HB.out)⟩⟩
              · have hxe : x = (a0.size : Int) := by omega
                have HXE := Aside0.mk hxe
                have hxlb : decide (x < (a0.size : Int)) = false := decide_eq_false hxl
                clear hxe
                go_wp2
                go_meet
                case rel => exact ⟨x, 3, (by first | rfl | (simp; done)), ⟨resR_tok (n := runL wd (dr a0 a1)) h0 (runL_le _ _) hl (by have h1 := HXA.out; have h2 := HX0.out; omega) (by decide) HS.out HR.out (by have h1 := HXA.out; rw [dr_nil (by have := HXE.out; omega)] at h1; simp [runL] at h1; omega)⟩, ⟨by (with_reducible repeat (first | refine blk_drewN ?_ _ | refine blk_drew ?_ | refine blk_alloc ?_ _)); exact BK4.out⟩, ⟨by (with_reducible repeat (first | refine blk_drewN ?_ _ | refine blk_drew ?_ | refine blk_alloc ?_ _)); exact BK9.out⟩, ⟨by repeat (first | (with_reducible first | exact HB.out | apply below_alloc | apply pw_below_drewN | apply below_drew1 | refine below_set ?_ GE9.out | refine below_set ?_ GE4.out) | exact HB.out)⟩⟩
          · have h36b : (c == 36) = false := beq_eq_false_iff_ne.mpr h36
            have HLC := Aside0.mk hlc
            have H36 := Aside0.mk h36
            clear hlc h36
            by_cases h35 : c = 35
            · have h35b : (c == 35) = true := beq_iff_eq.mpr h35
              have hS : nextS (dr a0 a1) = tokN 4 (dr a0 a1) (begL (dr a0 a1) faultsL) := by rw [HCB.out]; simp only [nextS]; rw [HC.out, if_neg (by rw [HDG.out]; decide), if_neg (by simpa using h34b), if_neg (by simp [HLC.out, H36.out]), if_pos h35]
              have HS := Aside0.mk hS
              clear hS h35
              go_wp2_with (first | (go_at_call 33; refine (HD.out _).mono ?_; rintro e w' ⟨rfl, ⟨nd, rfl⟩⟩) | (go_at_call 36; refine (HL.out _).mono ?_; rintro e w' ⟨rfl, ⟨nd, rfl⟩⟩))
              refine (whittleref4_faults.calls faultsB _ rfl).mono ?_
              rintro e w5 ⟨v0, rfl, hO, hb5⟩
              have n0_ := Aside0.mk (below_step (by repeat (first | (with_reducible first | exact HB.out | apply below_alloc | apply pw_below_drewN | apply below_drew1 | refine below_set ?_ GE9.out | refine below_set ?_ GE4.out) | exact HB.out)) hb5)
              have n1_ := Aside0.mk (blk_below (g := gb) (o := .cells #[.int .i64 0, .string (⟨#[]⟩ : ByteArray), .int .i64 0] 31 (0, 0)) (by (with_reducible repeat (first | refine blk_drewN ?_ _ | refine blk_drew ?_ | refine blk_alloc ?_ _)); exact BK4.out) hb5)
              have n2_ := Aside0.mk (blk_below (g := gt) (o := .cells #[.int .i64 0, .string (⟨#[]⟩ : ByteArray), .int .i64 a1] 31 (0, 0)) (by (with_reducible repeat (first | refine blk_drewN ?_ _ | refine blk_drew ?_ | refine blk_alloc ?_ _)); exact BK9.out) hb5)
              clear HB BK4 BK9 hb5 hz_0 hz_1 hz_2 fhz_0 fhz_1 fhz_2 hy_0 hy_1 hy_2 fhy_0 fhy_1 fhy_2
              have HB := n0_
              have BK4 := n1_
              have BK9 := n2_
              clear n0_ n1_ n2_
              obtain ⟨base, hO2⟩ : ∃ base, Kd.R Kd.string 9 w5 base (fun k => True ∧ k ≠ gt) v0 faultsB := ⟨_, Kd.R_types hO BK9.out (by intro q hq; simp [Kd.string, Kd.scalar] at hq; subst hq; decide)⟩
              obtain ⟨A, cc, hv, _, _⟩ := Kd.R_reads hO2
              rw [show faultsB.length = 8 from rfl] at hv
              subst hv
              obtain ⟨g, rfl, hgne⟩ := own_form8 hO2
              have HGN := Aside0.mk hgne
              clear hgne
              have HO := Aside0.mk hO2
              clear hO hO2
              go_wp2
              go_loopw [10, 16] (fun v10 v16 wr => ∃ (e j kd : Int), v10 = .int .i64 e ∧ v16 = .int .i64 j ∧ Aside0 (0 ≤ j) ∧ Aside0 (j ≤ 8) ∧ Aside0 (refF a1 (dr a0 a1) (faultsB.take j.toNat) (a1 + 1, 0) = (e, kd)) ∧ Aside0 (Kd.R Kd.string 9 wr base (fun k => True ∧ k ≠ gt) (.slice (some ⟨g, 0, none⟩) 8 cc) faultsB) ∧ Aside0 (wr.heap[gb]? = some (.cells #[.int .i64 0, .string (⟨#[]⟩ : ByteArray), .int .i64 0] 31 (0, 0))) ∧ Aside0 (wr.heap[gt]? = some (.cells #[.int .i64 kd, .string (⟨#[]⟩ : ByteArray), .int .i64 a1] 31 (0, 0))) ∧ Aside0 (Below w.heap.size w wr)) (fun v10 v16 _ => 8 - (intOf v16).toNat)
              case atStart => exact ⟨a1 + 1, 0, 0, by first | rfl | (simp; done), by first | rfl | (simp; done), ⟨by omega⟩, ⟨by omega⟩, ⟨rfl⟩, HO, BK4, BK9, HB⟩
              case round =>
                clear HB BK4 BK9 HD HL HO
                obtain ⟨e, j, kd, rfl, rfl, HJ0, HJ1, HST, HO, BK4, BK9, HB⟩ := hrel
                have hj0 := HJ0.out
                have hj1 := HJ1.out
                by_cases hjl : j < 8
                · have hcell : wr.cell? ⟨g, j.toNat, none⟩ = some (.string (rdOf ByteArray.empty faultsB j)) := (Kd.R_cell (h1 := fun _ => rfl) ByteArray.empty HO.out j hj0 hjl).1
                  have hts : (rdOf ByteArray.empty faultsB j).size ≤ 64 := faults_size j hj0 hjl
                  have htake : faultsB.take (j + 1).toNat = faultsB.take j.toNat ++ [rdOf ByteArray.empty faultsB j] := faults_take j hj0 hjl
                  have hbeg := ref_begins a0 (by omega) (rdOf ByteArray.empty faultsB j) hts a1 h0 hl
                  have hgn1 : (g = gt) = False := eq_false HGN.out
                  have hgn2 : (gt = g) = False := eq_false (fun h => HGN.out h.symm)
                  obtain ⟨t, ht⟩ : ∃ t, rdOf ByteArray.empty faultsB j = t := ⟨_, rfl⟩
                  rw [ht] at hcell hts htake hbeg
                  clear ht
                  have hjb : decide (j < 8) = true := decide_eq_true hjl
                  have hjc : (j < 8) = True := eq_true hjl
                  have hj0c : (0 ≤ j) = True := eq_true hj0
                  have hwj : IntKind.i64.wrap (j + 1) = j + 1 := by rw [IntKind.wrap_i64]; omega
                  have hwt : IntKind.i64.wrap (a1 + (t.size : Int)) = a1 + (t.size : Int) := by rw [IntKind.wrap_i64]; omega
                  have HTK := Aside0.mk htake
                  clear htake
                  have hz_0 : wr.cell? ⟨gt, 0, none⟩ = some (.int .i64 kd) := (blk_cell BK9.out 0).trans rfl
                  have fhz_0 := blk_frozen BK9.out 0
                  cases hpre : t.data.toList.isPrefixOf (dr a0 a1) with
                  | true =>
                    rw [hpre] at hbeg
                    have HBG := Aside0.mk (fun w => whittleref4_begins.calls a0 a1 t true w hbeg)
                    have HP := Aside0.mk hpre
                    clear hbeg hpre
                    go_wp2_with (go_at_call 38; refine (HBG.out _).mono ?_; rintro e w' ⟨rfl, ⟨nd, rfl⟩⟩)
                    go_roundw
                    case measure => simp [intOf]; omega
                    case rel => exact ⟨a1 + (t.size : Int), j + 1, 4, (by first | rfl | (simp; done)), (by first | rfl | (simp; done)), ⟨by omega⟩, ⟨by omega⟩, ⟨by rw [HTK.out, refF_snoc, HST.out]; simp only [stepF]; rw [HP.out, if_pos rfl]; (try rfl)⟩, ⟨by (with_reducible repeat (first | apply Kd.R_alloc | apply Kd.R_drewN | apply Kd.R_drew)); exact Kd.R_far (p := ⟨gt, 0, none⟩) (by (with_reducible repeat (first | apply Kd.R_alloc | apply Kd.R_drewN | apply Kd.R_drew)); exact HO.out) (fun _ hk => hk.2) _⟩, ⟨by (with_reducible repeat (first | refine blk_drewN ?_ _ | refine blk_drew ?_ | refine blk_alloc ?_ _)); refine blk_far ?_ NE.out _; (with_reducible repeat (first | refine blk_drewN ?_ _ | refine blk_drew ?_ | refine blk_alloc ?_ _)); exact BK4.out⟩, ⟨by (with_reducible repeat (first | refine blk_drewN ?_ _ | refine blk_drew ?_ | refine blk_alloc ?_ _)); refine blk_put (cs := #[.int .i64 kd, .string (⟨#[]⟩ : ByteArray), .int .i64 a1]) ?_ 0 _ rfl; (with_reducible repeat (first | refine blk_drewN ?_ _ | refine blk_drew ?_ | refine blk_alloc ?_ _)); exact BK9.out⟩, ⟨by repeat (first | (with_reducible first | exact HB.out | apply below_alloc | apply pw_below_drewN | apply below_drew1 | refine below_set ?_ GE9.out | refine below_set ?_ GE4.out) | exact HB.out)⟩⟩
                  | false =>
                    rw [hpre] at hbeg
                    have HBG := Aside0.mk (fun w => whittleref4_begins.calls a0 a1 t false w hbeg)
                    have HP := Aside0.mk hpre
                    clear hbeg hpre
                    go_wp2_with (go_at_call 38; refine (HBG.out _).mono ?_; rintro e w' ⟨rfl, ⟨nd, rfl⟩⟩)
                    go_roundw
                    case measure => simp [intOf]; omega
                    case rel => exact ⟨e, j + 1, kd, (by first | rfl | (simp; done)), (by first | rfl | (simp; done)), ⟨by omega⟩, ⟨by omega⟩, ⟨by rw [HTK.out, refF_snoc, HST.out]; simp only [stepF]; rw [HP.out, if_neg (by decide)]; (try rfl)⟩, ⟨by (with_reducible repeat (first | apply Kd.R_alloc | apply Kd.R_drewN | apply Kd.R_drew)); exact HO.out⟩, ⟨by (with_reducible repeat (first | refine blk_drewN ?_ _ | refine blk_drew ?_ | refine blk_alloc ?_ _)); exact BK4.out⟩, ⟨by (with_reducible repeat (first | refine blk_drewN ?_ _ | refine blk_drew ?_ | refine blk_alloc ?_ _)); exact BK9.out⟩, ⟨by repeat (first | (with_reducible first | exact HB.out | apply below_alloc | apply pw_below_drewN | apply below_drew1 | refine below_set ?_ GE9.out | refine below_set ?_ GE4.out) | exact HB.out)⟩⟩
                · obtain rfl : j = 8 := by omega
                  have hfin := HST.out
                  rw [show faultsB.take (8 : Int).toNat = faultsB from rfl, refF_all] at hfin
                  have hbl := begL_le (dr a0 a1) faultsL
                  have HBL := Aside0.mk hbl
                  have HFIN := Aside0.mk hfin
                  clear hfin hbl
                  go_wp2
                  by_cases hz : begL (dr a0 a1) faultsL = 0
                  · have h1 := HFIN.out
                    rw [if_pos hz] at h1
                    simp only [Prod.mk.injEq] at h1
                    obtain ⟨rfl, rfl⟩ := h1
                    go_meet
                    case rel => exact ⟨_, 0, (by first | rfl | (simp; done)), ⟨resR_none rfl (by rw [HS.out, tokN, if_pos hz]) HR.out⟩, ⟨by (with_reducible repeat (first | refine blk_drewN ?_ _ | refine blk_drew ?_ | refine blk_alloc ?_ _)); exact BK4.out⟩, ⟨by (with_reducible repeat (first | refine blk_drewN ?_ _ | refine blk_drew ?_ | refine blk_alloc ?_ _)); exact BK9.out⟩, ⟨by repeat (first | (with_reducible first | exact HB.out | apply below_alloc | apply pw_below_drewN | apply below_drew1 | refine below_set ?_ GE9.out | refine below_set ?_ GE4.out) | exact HB.out)⟩⟩
                  · have h1 := HFIN.out
                    rw [if_neg hz] at h1
                    simp only [Prod.mk.injEq] at h1
                    obtain ⟨rfl, rfl⟩ := h1
                    go_meet
                    case rel => exact ⟨_, 4, (by first | rfl | (simp; done)), ⟨resR_tok (n := begL (dr a0 a1) faultsL) h0 HBL.out hl hz (by decide) HS.out HR.out rfl⟩, ⟨by (with_reducible repeat (first | refine blk_drewN ?_ _ | refine blk_drew ?_ | refine blk_alloc ?_ _)); exact BK4.out⟩, ⟨by (with_reducible repeat (first | refine blk_drewN ?_ _ | refine blk_drew ?_ | refine blk_alloc ?_ _)); exact BK9.out⟩, ⟨by repeat (first | (with_reducible first | exact HB.out | apply below_alloc | apply pw_below_drewN | apply below_drew1 | refine below_set ?_ GE9.out | refine below_set ?_ GE4.out) | exact HB.out)⟩⟩
            · have h35b : (c == 35) = false := beq_eq_false_iff_ne.mpr h35
              have hS : nextS (dr a0 a1) = tokN 5 (dr a0 a1) (markL c (dr a0 a1)) := by rw [HCB.out]; simp only [nextS]; rw [HC.out, if_neg (by rw [HDG.out]; decide), if_neg (by simpa using h34b), if_neg (by simp [HLC.out, H36.out]), if_neg h35]
              have HS := Aside0.mk hS
              clear hS h35
              have hml := markL_le (c := c) (l := dr a0 a1) (by rw [HCB.out]; simp)
              have HML := Aside0.mk hml
              clear hml
              have hp1 := ref_begins a0 (by omega) ⟨#[60, 62]⟩ (by decide) a1 h0 hl
              have hp2 := ref_begins a0 (by omega) ⟨#[60, 61]⟩ (by decide) a1 h0 hl
              have hp3 := ref_begins a0 (by omega) ⟨#[62, 61]⟩ (by decide) a1 h0 hl
              have hmk : begL (dr a0 a1) pairsL = if List.isPrefixOf [60, 62] (dr a0 a1) = true then 2 else if List.isPrefixOf [60, 61] (dr a0 a1) = true then 2 else if List.isPrefixOf [62, 61] (dr a0 a1) = true then 2 else 0 := rfl
              have HMK := Aside0.mk hmk
              clear hmk
              obtain ⟨b1, hb1⟩ : ∃ b, List.isPrefixOf [60, 62] (dr a0 a1) = b := ⟨_, rfl⟩
              obtain ⟨b2, hb2⟩ : ∃ b, List.isPrefixOf [60, 61] (dr a0 a1) = b := ⟨_, rfl⟩
              obtain ⟨b3, hb3⟩ : ∃ b, List.isPrefixOf [62, 61] (dr a0 a1) = b := ⟨_, rfl⟩
              have HP1 := Aside0.mk (fun w => whittleref4_begins.calls a0 a1 ⟨#[60, 62]⟩ b1 w (hp1.trans (congrArg some hb1)))
              have HP2 := Aside0.mk (fun w => whittleref4_begins.calls a0 a1 ⟨#[60, 61]⟩ b2 w (hp2.trans (congrArg some hb2)))
              have HP3 := Aside0.mk (fun w => whittleref4_begins.calls a0 a1 ⟨#[62, 61]⟩ b3 w (hp3.trans (congrArg some hb3)))
              have H1 := Aside0.mk hb1
              have H2 := Aside0.mk hb2
              have H3 := Aside0.mk hb3
              clear hp1 hp2 hp3 hb1 hb2 hb3
              have hw2 : IntKind.i64.wrap (a1 + 2) = a1 + 2 := by rw [IntKind.wrap_i64]; omega
              cases b1 with
              | true =>
                have hm2 : markL c (dr a0 a1) = 2 := by simp [markL, HMK.out, H1.out, H2.out, H3.out]
                have HM2 := Aside0.mk hm2
                clear hm2
                go_wp2_with (first | (go_at_call 33; refine (HD.out _).mono ?_; rintro e w' ⟨rfl, ⟨nd, rfl⟩⟩) | (go_at_call 36; refine (HL.out _).mono ?_; rintro e w' ⟨rfl, ⟨nd, rfl⟩⟩) | (go_at_call 38; ((with_reducible refine (HP1.out _).mono ?_); rintro e w' ⟨rfl, ⟨nd, rfl⟩⟩)) | (go_at_call 38; ((with_reducible refine (HP2.out _).mono ?_); rintro e w' ⟨rfl, ⟨nd, rfl⟩⟩)) | (go_at_call 38; ((with_reducible refine (HP3.out _).mono ?_); rintro e w' ⟨rfl, ⟨nd, rfl⟩⟩)))
                go_meet
                case rel => exact ⟨a1 + 2, 5, (by first | rfl | (simp; done)), ⟨resR_tok (n := 2) h0 (by have := HML.out; rw [HM2.out] at this; exact this) hl (by decide) (by decide) (by rw [HS.out, HM2.out]) HR.out rfl⟩, ⟨by (with_reducible repeat (first | refine blk_drewN ?_ _ | refine blk_drew ?_ | refine blk_alloc ?_ _)); refine blk_far ?_ NE.out _; (with_reducible repeat (first | refine blk_drewN ?_ _ | refine blk_drew ?_ | refine blk_alloc ?_ _)); exact BK4.out⟩, ⟨by (with_reducible repeat (first | refine blk_drewN ?_ _ | refine blk_drew ?_ | refine blk_alloc ?_ _)); refine blk_put (cs := #[.int .i64 0, .string (⟨#[]⟩ : ByteArray), .int .i64 a1]) ?_ 0 _ rfl; (with_reducible repeat (first | refine blk_drewN ?_ _ | refine blk_drew ?_ | refine blk_alloc ?_ _)); exact BK9.out⟩, ⟨by repeat (first | (with_reducible first | exact HB.out | apply below_alloc | apply pw_below_drewN | apply below_drew1 | refine below_set ?_ GE9.out | refine below_set ?_ GE4.out) | exact HB.out)⟩⟩
              | false =>
                cases b2 with
                | true =>
                  have hm2 : markL c (dr a0 a1) = 2 := by simp [markL, HMK.out, H1.out, H2.out, H3.out]
                  have HM2 := Aside0.mk hm2
                  clear hm2
                  go_wp2_with (first | (go_at_call 33; refine (HD.out _).mono ?_; rintro e w' ⟨rfl, ⟨nd, rfl⟩⟩) | (go_at_call 36; refine (HL.out _).mono ?_; rintro e w' ⟨rfl, ⟨nd, rfl⟩⟩) | (go_at_call 38; ((with_reducible refine (HP1.out _).mono ?_); rintro e w' ⟨rfl, ⟨nd, rfl⟩⟩)) | (go_at_call 38; ((with_reducible refine (HP2.out _).mono ?_); rintro e w' ⟨rfl, ⟨nd, rfl⟩⟩)) | (go_at_call 38; ((with_reducible refine (HP3.out _).mono ?_); rintro e w' ⟨rfl, ⟨nd, rfl⟩⟩)))
                  go_meet
                  case rel => exact ⟨a1 + 2, 5, (by first | rfl | (simp; done)), ⟨resR_tok (n := 2) h0 (by have := HML.out; rw [HM2.out] at this; exact this) hl (by decide) (by decide) (by rw [HS.out, HM2.out]) HR.out rfl⟩, ⟨by (with_reducible repeat (first | refine blk_drewN ?_ _ | refine blk_drew ?_ | refine blk_alloc ?_ _)); refine blk_far ?_ NE.out _; (with_reducible repeat (first | refine blk_drewN ?_ _ | refine blk_drew ?_ | refine blk_alloc ?_ _)); exact BK4.out⟩, ⟨by (with_reducible repeat (first | refine blk_drewN ?_ _ | refine blk_drew ?_ | refine blk_alloc ?_ _)); refine blk_put (cs := #[.int .i64 0, .string (⟨#[]⟩ : ByteArray), .int .i64 a1]) ?_ 0 _ rfl; (with_reducible repeat (first | refine blk_drewN ?_ _ | refine blk_drew ?_ | refine blk_alloc ?_ _)); exact BK9.out⟩, ⟨by repeat (first | (with_reducible first | exact HB.out | apply below_alloc | apply pw_below_drewN | apply below_drew1 | refine below_set ?_ GE9.out | refine below_set ?_ GE4.out) | exact HB.out)⟩⟩
                | false =>
                  cases b3 with
                  | true =>
                    have hm2 : markL c (dr a0 a1) = 2 := by simp [markL, HMK.out, H1.out, H2.out, H3.out]
                    have HM2 := Aside0.mk hm2
                    clear hm2
                    go_wp2_with (first | (go_at_call 33; refine (HD.out _).mono ?_; rintro e w' ⟨rfl, ⟨nd, rfl⟩⟩) | (go_at_call 36; refine (HL.out _).mono ?_; rintro e w' ⟨rfl, ⟨nd, rfl⟩⟩) | (go_at_call 38; ((with_reducible refine (HP1.out _).mono ?_); rintro e w' ⟨rfl, ⟨nd, rfl⟩⟩)) | (go_at_call 38; ((with_reducible refine (HP2.out _).mono ?_); rintro e w' ⟨rfl, ⟨nd, rfl⟩⟩)) | (go_at_call 38; ((with_reducible refine (HP3.out _).mono ?_); rintro e w' ⟨rfl, ⟨nd, rfl⟩⟩)))
                    go_meet
                    case rel => exact ⟨a1 + 2, 5, (by first | rfl | (simp; done)), ⟨resR_tok (n := 2) h0 (by have := HML.out; rw [HM2.out] at this; exact this) hl (by decide) (by decide) (by rw [HS.out, HM2.out]) HR.out rfl⟩, ⟨by (with_reducible repeat (first | refine blk_drewN ?_ _ | refine blk_drew ?_ | refine blk_alloc ?_ _)); refine blk_far ?_ NE.out _; (with_reducible repeat (first | refine blk_drewN ?_ _ | refine blk_drew ?_ | refine blk_alloc ?_ _)); exact BK4.out⟩, ⟨by (with_reducible repeat (first | refine blk_drewN ?_ _ | refine blk_drew ?_ | refine blk_alloc ?_ _)); refine blk_put (cs := #[.int .i64 0, .string (⟨#[]⟩ : ByteArray), .int .i64 a1]) ?_ 0 _ rfl; (with_reducible repeat (first | refine blk_drewN ?_ _ | refine blk_drew ?_ | refine blk_alloc ?_ _)); exact BK9.out⟩, ⟨by repeat (first | (with_reducible first | exact HB.out | apply below_alloc | apply pw_below_drewN | apply below_drew1 | refine below_set ?_ GE9.out | refine below_set ?_ GE4.out) | exact HB.out)⟩⟩
                  | false =>
                    have hm2 : markL c (dr a0 a1) = if single c = true then 1 else 0 := by simp [markL, HMK.out, H1.out, H2.out, H3.out]
                    have HM2 := Aside0.mk hm2
                    clear hm2
                    go_wp2_with (first | (go_at_call 33; refine (HD.out _).mono ?_; rintro e w' ⟨rfl, ⟨nd, rfl⟩⟩) | (go_at_call 36; refine (HL.out _).mono ?_; rintro e w' ⟨rfl, ⟨nd, rfl⟩⟩) | (go_at_call 38; ((with_reducible refine (HP1.out _).mono ?_); rintro e w' ⟨rfl, ⟨nd, rfl⟩⟩)) | (go_at_call 38; ((with_reducible refine (HP2.out _).mono ?_); rintro e w' ⟨rfl, ⟨nd, rfl⟩⟩)) | (go_at_call 38; ((with_reducible refine (HP3.out _).mono ?_); rintro e w' ⟨rfl, ⟨nd, rfl⟩⟩)))
                    go_loopw [18] (fun v18 wr => ∃ (j kd : Int), v18 = .int .i64 j ∧ Aside0 (0 ≤ j) ∧ Aside0 (j ≤ 15) ∧ Aside0 (kd = if (singlesL.take j.toNat).any (fun b => decide ((b.toNat : Int) = c)) = true then 5 else 0) ∧ Aside0 (wr.heap[gb]? = some (.cells #[.int .i64 0, .string (⟨#[]⟩ : ByteArray), .int .i64 0] 31 (0, 0))) ∧ Aside0 (wr.heap[gt]? = some (.cells #[.int .i64 kd, .string (⟨#[]⟩ : ByteArray), .int .i64 a1] 31 (0, 0))) ∧ Aside0 (Below w.heap.size w wr)) (fun v18 _ => 15 - (intOf v18).toNat)
                    case atStart => exact ⟨0, 0, by first | rfl | (simp; done), ⟨by omega⟩, ⟨by omega⟩, ⟨by simp⟩, ⟨by (with_reducible repeat (first | refine blk_drewN ?_ _ | refine blk_drew ?_ | refine blk_alloc ?_ _)); exact BK4.out⟩, ⟨by (with_reducible repeat (first | refine blk_drewN ?_ _ | refine blk_drew ?_ | refine blk_alloc ?_ _)); exact BK9.out⟩, ⟨by repeat (first | (with_reducible first | exact HB.out | apply below_alloc | apply pw_below_drewN | apply below_drew1 | refine below_set ?_ GE9.out | refine below_set ?_ GE4.out) | exact HB.out)⟩⟩
                    case round =>
                      clear HB BK4 BK9 HD HL HP1 HP2 HP3 hz_0 hz_1 hz_2 fhz_0 fhz_1 fhz_2 hy_0 hy_1 hy_2 fhy_0 fhy_1 fhy_2
                      obtain ⟨j, kd, rfl, HJ0, HJ1, HKD, BK4, BK9, HB⟩ := hrel
                      have hj0 := HJ0.out
                      have hj1 := HJ1.out
                      by_cases hjl : j < 15
                      · have hjb : decide (j < 15) = true := decide_eq_true hjl
                        have hjc : (j < 15) = True := eq_true hjl
                        have hj0c : (0 ≤ j) = True := eq_true hj0
                        have hwj : IntKind.i64.wrap (j + 1) = j + 1 := by rw [IntKind.wrap_i64]; omega
                        have hbx : ∀ h : j.toNat < (⟨#[43, 45, 42, 47, 94, 38, 37, 40, 41, 44, 58, 33, 61, 60, 62]⟩ : ByteArray).size, (((⟨#[43, 45, 42, 47, 94, 38, 37, 40, 41, 44, 58, 33, 61, 60, 62]⟩ : ByteArray)[j.toNat]'h).toNat : Int) = bt ⟨#[43, 45, 42, 47, 94, 38, 37, 40, 41, 44, 58, 33, 61, 60, 62]⟩ j := bt_at _ j
                        have htake := singles_take c j hj0 hjl
                        obtain ⟨bx, hbxe⟩ : ∃ v : Int, bt ⟨#[43, 45, 42, 47, 94, 38, 37, 40, 41, 44, 58, 33, 61, 60, 62]⟩ j = v := ⟨_, rfl⟩
                        rw [hbxe] at hbx htake
                        clear hbxe
                        have HTK := Aside0.mk htake
                        clear htake
                        have hz_0 : wr.cell? ⟨gt, 0, none⟩ = some (.int .i64 kd) := (blk_cell BK9.out 0).trans rfl
                        have fhz_0 := blk_frozen BK9.out 0
                        by_cases hcb : c = bx
                        · have hcbb : (c == bx) = true := beq_iff_eq.mpr hcb
                          have HCB2 := Aside0.mk hcb
                          clear hcb
                          go_wp2
                          go_roundw
                          case measure => simp [intOf]; omega
                          case rel => exact ⟨j + 1, 5, (by first | rfl | (simp; done)), ⟨by omega⟩, ⟨by omega⟩, ⟨by rw [HTK.out, if_pos (by rw [HCB2.out]; simp)]⟩, ⟨by (with_reducible repeat (first | refine blk_drewN ?_ _ | refine blk_drew ?_ | refine blk_alloc ?_ _)); refine blk_far ?_ NE.out _; (with_reducible repeat (first | refine blk_drewN ?_ _ | refine blk_drew ?_ | refine blk_alloc ?_ _)); exact BK4.out⟩, ⟨by (with_reducible repeat (first | refine blk_drewN ?_ _ | refine blk_drew ?_ | refine blk_alloc ?_ _)); refine blk_put (cs := #[.int .i64 kd, .string (⟨#[]⟩ : ByteArray), .int .i64 a1]) ?_ 0 _ rfl; (with_reducible repeat (first | refine blk_drewN ?_ _ | refine blk_drew ?_ | refine blk_alloc ?_ _)); exact BK9.out⟩, ⟨by repeat (first | (with_reducible first | exact HB.out | apply below_alloc | apply pw_below_drewN | apply below_drew1 | refine below_set ?_ GE9.out | refine below_set ?_ GE4.out) | exact HB.out)⟩⟩
                        · have hcbb : (c == bx) = false := beq_eq_false_iff_ne.mpr hcb
                          have HCB2 := Aside0.mk hcb
                          clear hcb
                          go_wp2
                          go_roundw
                          case measure => simp [intOf]; omega
                          case rel => exact ⟨j + 1, kd, (by first | rfl | (simp; done)), ⟨by omega⟩, ⟨by omega⟩, ⟨by rw [HTK.out, show decide (bx = c) = false from decide_eq_false (fun h => HCB2.out h.symm), Bool.or_false]; exact HKD.out⟩, ⟨by (with_reducible repeat (first | refine blk_drewN ?_ _ | refine blk_drew ?_ | refine blk_alloc ?_ _)); exact BK4.out⟩, ⟨by (with_reducible repeat (first | refine blk_drewN ?_ _ | refine blk_drew ?_ | refine blk_alloc ?_ _)); exact BK9.out⟩, ⟨by repeat (first | (with_reducible first | exact HB.out | apply below_alloc | apply pw_below_drewN | apply below_drew1 | refine below_set ?_ GE9.out | refine below_set ?_ GE4.out) | exact HB.out)⟩⟩
                      · obtain rfl : j = 15 := by omega
                        have hfin := HKD.out
                        rw [show singlesL.take (15 : Int).toNat = singlesL from rfl] at hfin
                        have hsg : singlesL.any (fun b => decide ((b.toNat : Int) = c)) = single c := rfl
                        rw [hsg] at hfin
                        have HFIN := Aside0.mk hfin
                        clear hfin hsg
                        go_wp2
                        cases hs : single c with
                        | true =>
                          have h1 := HFIN.out
                          rw [hs, if_pos rfl] at h1
                          subst h1
                          have h2 := HM2.out
                          rw [hs, if_pos rfl] at h2
                          have HM3 := Aside0.mk h2
                          clear h2 hs
                          go_meet
                          case rel => exact ⟨a1 + 1, 5, (by first | rfl | (simp; done)), ⟨resR_tok (n := 1) h0 (by have := HML.out; rw [HM3.out] at this; exact this) hl (by decide) (by decide) (by rw [HS.out, HM3.out]) HR.out rfl⟩, ⟨by (with_reducible repeat (first | refine blk_drewN ?_ _ | refine blk_drew ?_ | refine blk_alloc ?_ _)); exact BK4.out⟩, ⟨by (with_reducible repeat (first | refine blk_drewN ?_ _ | refine blk_drew ?_ | refine blk_alloc ?_ _)); exact BK9.out⟩, ⟨by repeat (first | (with_reducible first | exact HB.out | apply below_alloc | apply pw_below_drewN | apply below_drew1 | refine below_set ?_ GE9.out | refine below_set ?_ GE4.out) | exact HB.out)⟩⟩
                        | false =>
                          have h1 := HFIN.out
                          rw [hs, if_neg (by decide)] at h1
                          subst h1
                          have h2 := HM2.out
                          rw [hs, if_neg (by decide)] at h2
                          have HM3 := Aside0.mk h2
                          clear h2 hs
                          go_meet
                          case rel => exact ⟨_, 0, (by first | rfl | (simp; done)), ⟨resR_none rfl (by rw [HS.out, HM3.out]; rfl) HR.out⟩, ⟨by (with_reducible repeat (first | refine blk_drewN ?_ _ | refine blk_drew ?_ | refine blk_alloc ?_ _)); exact BK4.out⟩, ⟨by (with_reducible repeat (first | refine blk_drewN ?_ _ | refine blk_drew ?_ | refine blk_alloc ?_ _)); exact BK9.out⟩, ⟨by repeat (first | (with_reducible first | exact HB.out | apply below_alloc | apply pw_below_drewN | apply below_drew1 | refine below_set ?_ GE9.out | refine below_set ?_ GE4.out) | exact HB.out)⟩⟩
  case rest =>
    obtain ⟨e, kd, rfl, HR, BK4, BK9, HB⟩ := hcut
    have h := HR.out
    unfold ResR at h
    clear HR
    by_cases hk : kd = 0
    · obtain rfl := hk
      rw [if_pos rfl] at h
      replace h := h.symm
      simp only [Prod.mk.injEq] at h
      obtain ⟨rfl, rfl, rfl, rfl, rfl, rfl⟩ := h
      have hz_0 : wc.cell? ⟨gt, 0, none⟩ = some (.int .i64 0) := (blk_cell BK9.out 0).trans rfl
      have hz_1 : wc.cell? ⟨gt, 1, none⟩ = some (.string (⟨#[]⟩ : ByteArray)) := (blk_cell BK9.out 1).trans rfl
      have hz_2 : wc.cell? ⟨gt, 2, none⟩ = some (.int .i64 a1) := (blk_cell BK9.out 2).trans rfl
      have fhz_0 := blk_frozen BK9.out 0
      have fhz_1 := blk_frozen BK9.out 1
      have fhz_2 := blk_frozen BK9.out 2
      have hy_0 : wc.cell? ⟨gb, 0, none⟩ = some (.int .i64 0) := (blk_cell BK4.out 0).trans rfl
      have hy_1 : wc.cell? ⟨gb, 1, none⟩ = some (.string (⟨#[]⟩ : ByteArray)) := (blk_cell BK4.out 1).trans rfl
      have hy_2 : wc.cell? ⟨gb, 2, none⟩ = some (.int .i64 0) := (blk_cell BK4.out 2).trans rfl
      have fhy_0 := blk_frozen BK4.out 0
      have fhy_1 := blk_frozen BK4.out 1
      have fhy_2 := blk_frozen BK4.out 2
      go_wp2
      refine bodyPost_ret (results_list (rs := [.cell 4 31, .tmp 5, .tmp 6, .tmp 7]) rfl (by simp) (.cell gb 31 #[.int .i64 0, .string (⟨#[]⟩ : ByteArray), .int .i64 a1] (0, 0) _ rfl (by (with_reducible repeat (first | refine blk_drewN ?_ _ | refine blk_drew ?_ | refine blk_alloc ?_ _)); refine blk_put (cs := #[.int .i64 0, .string (⟨#[]⟩ : ByteArray), .int .i64 0]) ?_ 2 _ rfl; (with_reducible repeat (first | refine blk_drewN ?_ _ | refine blk_drew ?_ | refine blk_alloc ?_ _)); refine blk_put (cs := #[.int .i64 0, .string (⟨#[]⟩ : ByteArray), .int .i64 0]) ?_ 1 _ rfl; (with_reducible repeat (first | refine blk_drewN ?_ _ | refine blk_drew ?_ | refine blk_alloc ?_ _)); refine blk_put (cs := #[.int .i64 0, .string (⟨#[]⟩ : ByteArray), .int .i64 0]) ?_ 0 _ rfl; (with_reducible repeat (first | refine blk_drewN ?_ _ | refine blk_drew ?_ | refine blk_alloc ?_ _)); exact BK4.out) hu31 rfl (by kernel_rfl) (.tmp (.tmp (.tmp .nil))))) rfl ?_
      exact ⟨by first | rfl | (simp; done) | (simp [*]; done), by repeat (first | (with_reducible first | exact HB.out | apply below_alloc | apply pw_below_drewN | apply below_drew1 | refine below_set ?_ GE9.out | refine below_set ?_ GE4.out) | exact HB.out)⟩
    · rw [if_neg hk] at h
      have hkb : (kd == 0) = false := beq_eq_false_iff_ne.mpr hk
      obtain ⟨hn2, hn1, h⟩ := h
      replace h := h.symm
      simp only [Prod.mk.injEq] at h
      obtain ⟨rfl, rfl, rfl, rfl, rfl, rfl⟩ := h
      have hn1b := eq_true hn1
      have hn2b := eq_true hn2
      have hn1c : decide (e ≤ (a0.size : Int)) = true := decide_eq_true hn1
      have hn2c : decide (a1 ≤ e) = true := decide_eq_true hn2
      clear hk hn1 hn2
      have hz_0 : wc.cell? ⟨gt, 0, none⟩ = some (.int .i64 kd) := (blk_cell BK9.out 0).trans rfl
      have hz_1 : wc.cell? ⟨gt, 1, none⟩ = some (.string (⟨#[]⟩ : ByteArray)) := (blk_cell BK9.out 1).trans rfl
      have hz_2 : wc.cell? ⟨gt, 2, none⟩ = some (.int .i64 a1) := (blk_cell BK9.out 2).trans rfl
      have fhz_0 := blk_frozen BK9.out 0
      have fhz_1 := blk_frozen BK9.out 1
      have fhz_2 := blk_frozen BK9.out 2
      have hy_0 : wc.cell? ⟨gb, 0, none⟩ = some (.int .i64 0) := (blk_cell BK4.out 0).trans rfl
      have hy_1 : wc.cell? ⟨gb, 1, none⟩ = some (.string (⟨#[]⟩ : ByteArray)) := (blk_cell BK4.out 1).trans rfl
      have hy_2 : wc.cell? ⟨gb, 2, none⟩ = some (.int .i64 0) := (blk_cell BK4.out 2).trans rfl
      have fhy_0 := blk_frozen BK4.out 0
      have fhy_1 := blk_frozen BK4.out 1
      have fhy_2 := blk_frozen BK4.out 2
      have hne1 : (gb = gt) = False := eq_false NE.out
      have hne2 : (gt = gb) = False := eq_false (fun h => NE.out h.symm)
      go_wp2
      refine bodyPost_ret (results_list (rs := [.cell 4 31, .tmp 5, .tmp 6, .tmp 7]) rfl (by simp) (.cell gb 31 #[.int .i64 kd, .string (a0.extract a1.toNat e.toNat), .int .i64 a1] (0, 0) _ rfl (by (with_reducible repeat (first | refine blk_drewN ?_ _ | refine blk_drew ?_ | refine blk_alloc ?_ _)); refine blk_put (cs := #[.int .i64 kd, .string (a0.extract a1.toNat e.toNat), .int .i64 0]) ?_ 2 _ rfl; (with_reducible repeat (first | refine blk_drewN ?_ _ | refine blk_drew ?_ | refine blk_alloc ?_ _)); refine blk_put (cs := #[.int .i64 kd, .string (⟨#[]⟩ : ByteArray), .int .i64 0]) ?_ 1 _ rfl; (with_reducible repeat (first | refine blk_drewN ?_ _ | refine blk_drew ?_ | refine blk_alloc ?_ _)); refine blk_put (cs := #[.int .i64 0, .string (⟨#[]⟩ : ByteArray), .int .i64 0]) ?_ 0 _ rfl; (with_reducible repeat (first | refine blk_drewN ?_ _ | refine blk_drew ?_ | refine blk_alloc ?_ _)); refine blk_far ?_ NE.out _; (with_reducible repeat (first | refine blk_drewN ?_ _ | refine blk_drew ?_ | refine blk_alloc ?_ _)); exact BK4.out) hu31 rfl (by kernel_rfl) (.tmp (.tmp (.tmp .nil))))) rfl ?_
      exact ⟨by first | rfl | (simp; done) | (simp [*]; done), by repeat (first | (with_reducible first | exact HB.out | apply below_alloc | apply pw_below_drewN | apply below_drew1 | refine below_set ?_ GE9.out | refine below_set ?_ GE4.out) | exact HB.out)⟩

end Go.Proofs.YtceldhkfidmfkaaDoor.L
