/- What stands at a text's head does not turn where the text is cut or parted by blanks behind it; no program here. -/
import Derived.Test.YtceldhkfidmfkaaDoorSc
namespace Go.Proofs.YtceldhkfidmfkaaDoor.Plain
open Go
set_option linter.unusedSimpArgs false

/-- What may stand behind a cut. -/
def Gap (X : List UInt8) : Prop := X = [] ∨ ∃ r, X = 32 :: r
theorem runL_gap {p : Int → Bool} (hp : p 32 = false) {X : List UInt8} (h : Gap X) : runL p X = 0 := by
  rcases h with rfl | ⟨r, rfl⟩
  · rfl
  · simp only [runL]
    rw [if_neg]
    simpa using hp
theorem runL_app {p : Int → Bool} {X : List UInt8} (hX : runL p X = 0) : ∀ (l : List UInt8) (q : Nat), runL p l ≤ q → runL p (l.take q ++ X) = runL p l
  | [], q, _ => by simpa [runL] using hX
  | c :: r, q, h => by
    simp only [runL] at h ⊢
    by_cases hc : p (c.toNat : Int) = true
    · rw [if_pos hc] at h ⊢
      obtain ⟨q', rfl⟩ : ∃ q', q = q' + 1 := ⟨q - 1, by omega⟩
      rw [List.take_succ_cons, List.cons_append]
      simp only [runL]
      rw [if_pos hc, runL_app hX r q' (by omega)]
    · rw [if_neg hc]
      cases q with
      | zero => simpa using hX
      | succ q' =>
        rw [List.take_succ_cons, List.cons_append]
        simp only [runL]
        rw [if_neg hc]
theorem runL_ge {p : Int → Bool} {X : List UInt8} : ∀ (l : List UInt8) (m q : Nat), m ≤ runL p l → m ≤ q → m ≤ runL p (l.take q ++ X)
  | [], m, q, h, _ => by simp [runL] at h; omega
  | c :: r, m, q, h, hq => by
    cases m with
    | zero => omega
    | succ m =>
      obtain ⟨q', rfl⟩ : ∃ q', q = q' + 1 := ⟨q - 1, by omega⟩
      rw [List.take_succ_cons, List.cons_append]
      simp only [runL] at h ⊢
      by_cases hc : p (c.toNat : Int) = true
      · rw [if_pos hc] at h ⊢
        have := runL_ge (p := p) (X := X) r m q' (by omega) (by omega)
        omega
      · rw [if_neg hc] at h
        omega
theorem runL_stop {p : Int → Bool} : ∀ (l : List UInt8) {c : UInt8} {r : List UInt8}, l.drop (runL p l) = c :: r → p (c.toNat : Int) = false
  | [], c, r, h => by simp [runL] at h
  | d :: l, c, r, h => by
    simp only [runL] at h
    by_cases hd : p (d.toNat : Int) = true
    · rw [if_pos hd, List.drop_succ_cons] at h
      exact runL_stop l h
    · rw [if_neg hd, List.drop_zero] at h
      injection h with h1 h2
      subst h1
      simpa using hd

theorem pre_app {t l X : List UInt8} {q : Nat} (h : t <+: l) (hq : t.length ≤ q) : t <+: l.take q ++ X := by
  have h1 : t <+: l.take q := by
    rw [List.prefix_iff_eq_take] at h ⊢
    rw [List.take_take, Nat.min_eq_left hq]
    exact h
  exact h1.trans (List.prefix_append _ _)
theorem begL_mem {l : List UInt8} {ts : List (List UInt8)} {n : Nat} (h : begL l ts = n) (h0 : 0 < n) : ∃ t, t ∈ ts ∧ t <+: l ∧ t.length = n := by
  induction ts with
  | nil => simp [begL] at h; omega
  | cons t ts ih =>
    simp only [begL] at h
    split at h
    · rename_i hp
      exact ⟨t, List.mem_cons_self, List.isPrefixOf_iff_prefix.mp hp, h⟩
    · obtain ⟨t', h1, h2⟩ := ih h
      exact ⟨t', List.mem_cons_of_mem _ h1, h2⟩
theorem begL_loc {l l2 : List UInt8} {ts : List (List UInt8)} (hp : ts.Pairwise fun s t => ¬ s <+: t ∧ ¬ t <+: s) {n : Nat} (h : begL l ts = n) (h0 : 0 < n)
    (hl : ∀ t, t ∈ ts → t <+: l → t.length = n → t <+: l2) : begL l2 ts = n := by
  induction ts with
  | nil => simp [begL] at h; omega
  | cons t ts ih =>
    rw [List.pairwise_cons] at hp
    simp only [begL] at h ⊢
    by_cases ht : t.isPrefixOf l = true
    · rw [if_pos ht] at h
      have := hl t List.mem_cons_self (List.isPrefixOf_iff_prefix.mp ht) h
      rw [if_pos (List.isPrefixOf_iff_prefix.mpr this)]
      exact h
    · rw [if_neg ht] at h
      obtain ⟨t', h1, h2, h3⟩ := begL_mem h h0
      have h4 := hl t' (List.mem_cons_of_mem _ h1) h2 h3
      have h5 : ¬ t.isPrefixOf l2 = true := fun he => by
        have := hp.1 t' h1
        rcases List.prefix_or_prefix_of_prefix (List.isPrefixOf_iff_prefix.mp he) h4 with h | h
        · exact this.1 h
        · exact this.2 h
      rw [if_neg h5]
      exact ih hp.2 h (fun t ht => hl t (List.mem_cons_of_mem _ ht))
theorem begL_app {l X : List UInt8} {ts : List (List UInt8)} (hp : ts.Pairwise fun s t => ¬ s <+: t ∧ ¬ t <+: s) {n q : Nat} (h : begL l ts = n) (h0 : 0 < n) (hq : n ≤ q) : begL (l.take q ++ X) ts = n :=
  begL_loc hp h h0 fun t _ h1 h2 => pre_app h1 (by omega)
theorem pairs_gap {c : UInt8} {r X : List UInt8} {q : Nat} (hX : Gap X) (h : begL (c :: r) pairsL = 0) : begL (c :: (r.take q ++ X)) pairsL = 0 := by
  have hz : ∀ Y : List UInt8, Gap Y → begL (c :: Y) pairsL = 0 := by
    intro Y hY
    rcases hY with rfl | ⟨r, rfl⟩
    · simp [begL, pairsL, List.isPrefixOf]
    · simp [begL, pairsL, List.isPrefixOf]
  cases q with
  | zero => exact hz _ hX
  | succ q =>
    cases r with
    | nil => exact hz _ hX
    | cons d r =>
      rw [List.take_succ_cons, List.cons_append]
      simp only [begL, pairsL, List.isPrefixOf] at h ⊢
      exact h
theorem markL_app {c : UInt8} {r X : List UInt8} {n q : Nat} (hX : Gap X) (h : markL (c.toNat : Int) (c :: r) = n) (h0 : 0 < n) (hq : n ≤ q + 1) : markL (c.toNat : Int) (c :: (r.take q ++ X)) = n := by
  unfold markL at h ⊢
  by_cases hb : begL (c :: r) pairsL = 0
  · rw [if_pos hb] at h
    rw [if_pos (pairs_gap hX hb)]
    exact h
  · rw [if_neg hb] at h
    have h1 := begL_app (X := X) (q := q + 1) (ts := pairsL) (by decide) h h0 hq
    rw [List.take_succ_cons, List.cons_append] at h1
    rw [h1, if_neg (by omega)]
theorem numTail_app {m : Nat} {r X : List UInt8} {n q : Nat} (hX : Gap X) (h : numTail m r = n) (hq : n ≤ m + q) : numTail m (r.take q ++ X) = n := by
  have hz : ∀ Y : List UInt8, Gap Y → numTail m Y = m := by
    intro Y hY
    rcases hY with rfl | ⟨r, rfl⟩
    · rfl
    · simp [numTail]
  have hd : runL dg X = 0 := runL_gap (by decide) hX
  cases r with
  | nil =>
    simp only [numTail] at h
    subst h
    rw [List.take_nil, List.nil_append]
    exact hz _ hX
  | cons c r =>
    simp only [numTail] at h
    split at h
    · rename_i hc
      obtain ⟨q', rfl⟩ : ∃ q', q = q' + 1 := ⟨q - 1, by omega⟩
      rw [List.take_succ_cons, List.cons_append]
      simp only [numTail]
      rw [runL_app hd r q' (by omega), if_pos hc]
      exact h
    · rename_i hc
      subst h
      cases q with
      | zero => exact hz _ hX
      | succ q' =>
        rw [List.take_succ_cons, List.cons_append]
        simp only [numTail]
        rw [if_neg]
        rintro ⟨h1, h2⟩
        have h3 : runL dg r = 0 := by
          refine Decidable.byContradiction fun h3 => hc ⟨h1, by omega⟩
        rw [runL_app hd r q' (by omega)] at h2
        omega
theorem numTail_ge (m : Nat) (r : List UInt8) : m ≤ numTail m r := by
  cases r with
  | nil => exact Nat.le_refl _
  | cons c r => simp only [numTail]; split <;> omega
theorem numL_app {l X : List UInt8} {n q : Nat} (hX : Gap X) (h : numL l = n) (hq : n ≤ q) : numL (l.take q ++ X) = n := by
  have hd : runL dg X = 0 := runL_gap (by decide) hX
  unfold numL at h ⊢
  have hm : runL dg l ≤ q := by have := numTail_ge (runL dg l) (l.drop (runL dg l)); omega
  have hml := runL_le dg l
  rw [runL_app hd l q hm]
  have : (l.take q ++ X).drop (runL dg l) = (l.drop (runL dg l)).take (q - runL dg l) ++ X := by
    rw [List.drop_append_of_le_length (by rw [List.length_take]; omega), List.drop_take]
  rw [this]
  exact numTail_app hX h (by omega)
theorem qTok_app {r X : List UInt8} {m q : Nat} (hX : Gap X) (hm : qLen r = some m) (ho : m ≤ okL r) (hq : m ≤ q) : qTok (r.take q ++ X) = .tok 2 (qSaid r) (m + 1) := by
  obtain ⟨rest, h1, h2, h3⟩ := qLen_shape hm
  have hok : m ≤ okL (r.take q ++ X) := runL_ge r m q ho hq
  generalize hu : qSaid r = u at h1 h2 ⊢
  have hcut : r.take q ++ X = dbl u ++ 34 :: (rest.take (q - m) ++ X) := by
    rw [h1, show dbl u ++ 34 :: rest = (dbl u ++ [34]) ++ rest by simp, List.take_append, List.take_of_length_le (by simp; omega)]
    have hlen : q - (dbl u ++ [(34 : UInt8)]).length = q - m := by rw [List.length_append, List.length_singleton]; omega
    rw [hlen]
    simp
  have hd := qLen_dbl u (rest.take (q - m) ++ X) (by
    intro d r' he
    cases hrt : rest.take (q - m) with
    | nil =>
      rw [hrt, List.nil_append] at he
      rcases hX with rfl | ⟨x, rfl⟩
      · cases he
      · injection he with e1 _; subst e1; decide
    | cons d' r'' =>
      rw [hrt, List.cons_append] at he
      injection he with e1 _
      subst e1
      cases hrest : rest with
      | nil => rw [hrest] at hrt; simp at hrt
      | cons d2 r2 =>
        rw [hrest] at hrt
        cases hqm : q - m with
        | zero => rw [hqm] at hrt; simp at hrt
        | succ k =>
          rw [hqm, List.take_succ_cons] at hrt
          injection hrt with e2 _
          subst e2
          exact h3 _ _ hrest)
  rw [← hcut] at hd
  unfold qTok
  rw [hd.1]
  simp only
  rw [if_neg (by omega), hd.2, ← h2]

theorem nextS_dg {c : UInt8} (r : List UInt8) (h : dg (c.toNat : Int) = true) : nextS (c :: r) = tokN 1 (c :: r) (numL (c :: r)) := by
  simp only [nextS]; rw [if_pos h]
theorem nextS_q (r : List UInt8) : nextS (34 :: r) = qTok r := by
  simp only [nextS]; rw [if_neg (by decide), if_pos (by decide)]
theorem nextS_w {c : UInt8} (r : List UInt8) (h : dg (c.toNat : Int) = false) (h2 : (lt (c.toNat : Int) || decide ((c.toNat : Int) = 36)) = true) : nextS (c :: r) = tokN 3 (c :: r) (runL wd (c :: r)) := by
  have h3 : ¬ (c.toNat : Int) = 34 := by
    intro h3
    rw [h3] at h2
    revert h2; decide
  simp only [nextS]; rw [if_neg (by rw [h]; decide), if_neg h3, if_pos h2]
theorem nextS_f (r : List UInt8) : nextS (35 :: r) = tokN 4 (35 :: r) (begL (35 :: r) faultsL) := by
  simp only [nextS]; rw [if_neg (by decide), if_neg (by decide), if_neg (by decide), if_pos (by decide)]
theorem nextS_m {c : UInt8} (r : List UInt8) (h : dg (c.toNat : Int) = false) (h1 : c ≠ 34) (h2 : (lt (c.toNat : Int) || decide ((c.toNat : Int) = 36)) = false) (h3 : c ≠ 35) :
    nextS (c :: r) = tokN 5 (c :: r) (markL (c.toNat : Int) (c :: r)) := by
  have e35 : ¬ (c.toNat : Int) = 35 := by
    intro h; apply h3; apply UInt8.toNat_inj.mp; simpa using (by omega : c.toNat = 35)
  simp only [nextS]; rw [if_neg (by rw [h]; decide), if_neg (fun h => h1 (c34.mp h)), if_neg (by rw [h2]; decide), if_neg e35]

theorem take_app {l X : List UInt8} {n q : Nat} (hq : n ≤ q) (hl : n ≤ l.length) : (l.take q ++ X).take n = l.take n := by
  rw [List.take_append_of_le_length (by rw [List.length_take]; omega), List.take_take, Nat.min_eq_left hq]
theorem tokN_app {kd : Int} {l X : List UInt8} {n q : Nat} (h0 : 0 < n) (hq : n ≤ q) (hl : n ≤ l.length) : tokN kd (l.take q ++ X) n = .tok kd (l.take n) n := by
  unfold tokN
  rw [if_neg (by omega), take_app hq hl]

/-- THE TOKEN AT THE HEAD STAYS. -/
theorem loc {l t X : List UInt8} {kd : Int} {n q : Nat} (h : nextS l = .tok kd t n) (hq : n ≤ q) (hX : Gap X) : nextS (l.take q ++ X) = .tok kd t n := by
  have hb := nextS_tok h
  cases l with
  | nil => cases h
  | cons c r =>
    obtain ⟨q', rfl⟩ : ∃ q', q = q' + 1 := ⟨q - 1, by omega⟩
    have hcut : (c :: r).take (q' + 1) ++ X = c :: (r.take q' ++ X) := rfl
    rcases nextS_cases c r with ⟨hc, e⟩ | ⟨hc, e⟩ | ⟨hc, hc2, e⟩ | ⟨hc, e⟩ | ⟨hc, hc2, hc3, hc4, e⟩ <;> rw [e] at h
    · obtain ⟨rfl, rfl, h1, rfl⟩ := tokN_tok h
      have := numL_app (X := X) hX (rfl : numL (c :: r) = numL (c :: r)) hq
      rw [hcut] at this ⊢
      rw [nextS_dg _ hc, this, ← hcut, tokN_app h1 hq hb.2.1]
    · subst hc
      obtain ⟨m, hm, ho, rfl, rfl, rfl⟩ := qTok_tok h
      rw [hcut, nextS_q, qTok_app hX hm ho (by omega)]
    · obtain ⟨rfl, rfl, h1, rfl⟩ := tokN_tok h
      have := runL_app (p := wd) (X := X) (runL_gap (by decide) hX) (c :: r) (q' + 1) hq
      rw [hcut] at this ⊢
      rw [nextS_w _ hc hc2, this, ← hcut, tokN_app h1 hq hb.2.1]
    · subst hc
      obtain ⟨rfl, rfl, h1, rfl⟩ := tokN_tok h
      have := begL_app (X := X) (q := q' + 1) (ts := faultsL) (by decide) rfl h1 hq
      rw [hcut] at this ⊢
      rw [nextS_f, this, ← hcut, tokN_app h1 hq hb.2.1]
    · obtain ⟨rfl, rfl, h1, rfl⟩ := tokN_tok h
      have := markL_app (X := X) (q := q') hX (rfl : markL (c.toNat : Int) (c :: r) = _) h1 hq
      rw [hcut, nextS_m _ hc hc2 hc3 hc4, this, ← hcut, tokN_app h1 hq hb.2.1]

/-- Of a text that holds a bad byte: cut there, it does not end. -/
theorem qcut {r : List UInt8} {m : Nat} (hm : qLen r = some m) (ho : okL r < m) : qLen (r.take (okL r)) = none := by
  cases hk : qLen (r.take (okL r)) with
  | none => rfl
  | some m' =>
    exfalso
    obtain ⟨rest, h1, h2, h3⟩ := qLen_shape hk
    generalize hu : qSaid (r.take (okL r)) = u at h1 h2
    have hr : r = dbl u ++ 34 :: (rest ++ r.drop (okL r)) := by
      conv => lhs; rw [← List.take_append_drop (okL r) r, h1]
      simp
    have hml := (qLen_le hk).2
    rw [List.length_take] at hml
    have hd := qLen_dbl u (rest ++ r.drop (okL r)) (by
      intro d r' he
      cases hrest : rest with
      | nil =>
        rw [hrest, List.nil_append] at he
        have := runL_stop (p := fun c => !badB c) r he
        intro hd
        subst hd
        revert this; decide
      | cons d2 r2 =>
        rw [hrest, List.cons_append] at he
        injection he with e1 _
        subst e1
        exact h3 _ _ hrest)
    rw [← hr] at hd
    rw [hd.1] at hm
    injection hm with hm
    omega
end Go.Proofs.YtceldhkfidmfkaaDoor.Plain
