/- What the scanner answers, as a relation on lists of bytes; no program here. -/
import Derived.Test.YtceldhkfidmfkaaDoorPlain
import Derived.Lib.ReplaceLaws
import Derived.Lib.IndexLaws
import Derived.Lib.IndexBytes
import Derived.Lib.CountLaws
namespace Go.Proofs.YtceldhkfidmfkaaDoor.Plain
open Go
set_option linter.unusedSimpArgs false

/-- A token: its kind, what it says, its place. -/
abbrev Tk := Int × List UInt8 × Nat
/-- What a scan answers. -/
inductive Res where
  | ok (l : List Tk)
  | err (e : Int) (p : Nat)
def Res.put (t : Tk) : Res → Res
  | .ok l => .ok (t :: l)
  | .err e p => .err e p

theorem c34 {c : UInt8} : (c.toNat : Int) = 34 ↔ c = 34 := by
  constructor
  · intro h; apply UInt8.toNat_inj.mp; simpa using (by omega : c.toNat = 34)
  · rintro rfl; rfl
theorem c32 {c : UInt8} : (c.toNat : Int) = 32 ↔ c = 32 := by
  constructor
  · intro h; apply UInt8.toNat_inj.mp; simpa using (by omega : c.toNat = 32)
  · rintro rfl; rfl

theorem qLen_le {l : List UInt8} {m : Nat} (h : qLen l = some m) : 0 < m ∧ m ≤ l.length := by
  induction l using qLen.induct generalizing m with
  | case1 => simp [qLen] at h
  | case2 c hc => rw [qLen.eq_def] at h; simp [hc] at h; subst h; simp
  | case3 c hc d r' hd ih =>
    rw [qLen.eq_def] at h
    simp only [hc, hd, if_true, Option.map_eq_some_iff] at h
    obtain ⟨a, ha, rfl⟩ := h
    have := ih ha
    simp; omega
  | case4 c hc d r' hd =>
    rw [qLen.eq_def] at h
    simp [hc, hd] at h; subst h; simp
  | case5 c r hc ih =>
    rw [qLen.eq_def] at h
    simp only [hc, if_false, Option.map_eq_some_iff] at h
    obtain ⟨a, ha, rfl⟩ := h
    have := ih ha
    simp; omega

theorem begL_le' (l : List UInt8) (ts : List (List UInt8)) : begL l ts ≤ l.length := by
  induction ts with
  | nil => simp [begL]
  | cons t ts ih =>
    simp only [begL]
    split
    · rename_i h
      exact (List.isPrefixOf_iff_prefix.mp h).length_le
    · exact ih
theorem tokN_tok {kd0 kd : Int} {l t : List UInt8} {n0 n : Nat} (h : tokN kd0 l n0 = .tok kd t n) : kd = kd0 ∧ n = n0 ∧ 0 < n ∧ t = l.take n := by
  unfold tokN at h
  split at h
  · cases h
  · injection h with h1 h2 h3
    subst h1 h3
    exact ⟨rfl, rfl, by omega, h2.symm⟩
theorem tokN_err {kd0 e : Int} {l : List UInt8} {n0 off : Nat} (h : tokN kd0 l n0 = .err e off) : n0 = 0 ∧ e = 40 ∧ off = 0 := by
  unfold tokN at h
  split at h
  · injection h with h1 h2
    subst h1 h2
    exact ⟨by assumption, rfl, rfl⟩
  · cases h
theorem markL_le' {c : Int} {l : List UInt8} (h : 0 < l.length) : markL c l ≤ l.length := by
  unfold markL
  have := begL_le' l pairsL
  split
  · split <;> omega
  · exact this
theorem qTok_tok {r t : List UInt8} {kd : Int} {n : Nat} (h : qTok r = .tok kd t n) : ∃ m, qLen r = some m ∧ m ≤ okL r ∧ kd = 2 ∧ t = qSaid r ∧ n = m + 1 := by
  unfold qTok at h
  cases hq : qLen r with
  | none => rw [hq] at h; cases h
  | some m =>
    rw [hq] at h
    simp only at h
    split at h
    · cases h
    · injection h with h1 h2 h3
      exact ⟨m, rfl, by omega, h1.symm, h2.symm, h3.symm⟩
theorem qTok_err {r : List UInt8} {e : Int} {off : Nat} (h : qTok r = .err e off) : (qLen r = none ∧ e = 41 ∧ off = 0) ∨ ∃ m, qLen r = some m ∧ okL r < m ∧ e = 40 ∧ off = okL r + 1 := by
  unfold qTok at h
  cases hq : qLen r with
  | none => rw [hq] at h; injection h with h1 h2; exact .inl ⟨rfl, h1.symm, h2.symm⟩
  | some m =>
    rw [hq] at h
    simp only at h
    split at h
    · injection h with h1 h2; exact .inr ⟨m, rfl, by assumption, h1.symm, h2.symm⟩
    · cases h
/-- The class of a token's first byte. -/
theorem nextS_cases (c : UInt8) (r : List UInt8) :
    (dg (c.toNat : Int) = true ∧ nextS (c :: r) = tokN 1 (c :: r) (numL (c :: r))) ∨
    (c = 34 ∧ nextS (c :: r) = qTok r) ∨
    (dg (c.toNat : Int) = false ∧ (lt (c.toNat : Int) || decide ((c.toNat : Int) = 36)) = true ∧ nextS (c :: r) = tokN 3 (c :: r) (runL wd (c :: r))) ∨
    (c = 35 ∧ nextS (c :: r) = tokN 4 (c :: r) (begL (c :: r) faultsL)) ∨
    (dg (c.toNat : Int) = false ∧ c ≠ 34 ∧ (lt (c.toNat : Int) || decide ((c.toNat : Int) = 36)) = false ∧ c ≠ 35 ∧ nextS (c :: r) = tokN 5 (c :: r) (markL (c.toNat : Int) (c :: r))) := by
  simp only [nextS]
  cases h1 : dg (c.toNat : Int) with
  | true => exact .inl ⟨rfl, by rw [if_pos rfl]⟩
  | false =>
    rw [if_neg (by decide)]
    by_cases h2 : (c.toNat : Int) = 34
    · exact .inr (.inl ⟨c34.mp h2, by rw [if_pos h2]⟩)
    · rw [if_neg h2]
      cases h3 : (lt (c.toNat : Int) || decide ((c.toNat : Int) = 36)) with
      | true => exact .inr (.inr (.inl ⟨rfl, rfl, by rw [if_pos rfl]⟩))
      | false =>
        rw [if_neg (by decide)]
        have e35 : (c.toNat : Int) = 35 ↔ c = 35 := by
          constructor
          · intro h; apply UInt8.toNat_inj.mp; simpa using (by omega : c.toNat = 35)
          · rintro rfl; rfl
        by_cases h4 : (c.toNat : Int) = 35
        · exact .inr (.inr (.inr (.inl ⟨e35.mp h4, by rw [if_pos h4]⟩)))
        · exact .inr (.inr (.inr (.inr ⟨rfl, fun h => h2 (c34.mpr h), rfl, fun h => h4 (e35.mpr h), by rw [if_neg h4]⟩)))

theorem nextS_tok {l t : List UInt8} {kd : Int} {n : Nat} (h : nextS l = .tok kd t n) : 0 < n ∧ n ≤ l.length ∧ 1 ≤ kd ∧ kd ≤ 5 ∧ (kd ≠ 2 → t = l.take n) := by
  cases l with
  | nil => cases h
  | cons c r =>
    rcases nextS_cases c r with ⟨_, e⟩ | ⟨_, e⟩ | ⟨_, _, e⟩ | ⟨_, e⟩ | ⟨_, _, _, _, e⟩ <;> rw [e] at h
    · obtain ⟨rfl, rfl, h1, h2⟩ := tokN_tok h
      exact ⟨h1, numL_le _, by decide, by decide, fun _ => h2⟩
    · obtain ⟨m, hm, _, rfl, rfl, rfl⟩ := qTok_tok h
      have := qLen_le hm
      exact ⟨by omega, by simp; omega, by decide, by decide, fun h => absurd rfl h⟩
    · obtain ⟨rfl, rfl, h1, h2⟩ := tokN_tok h
      exact ⟨h1, runL_le _ _, by decide, by decide, fun _ => h2⟩
    · obtain ⟨rfl, rfl, h1, h2⟩ := tokN_tok h
      exact ⟨h1, begL_le' _ _, by decide, by decide, fun _ => h2⟩
    · obtain ⟨rfl, rfl, h1, h2⟩ := tokN_tok h
      exact ⟨h1, markL_le' (by simp), by decide, by decide, fun _ => h2⟩
theorem nextS_err {c : UInt8} {r : List UInt8} {e : Int} {off : Nat} (h : nextS (c :: r) = .err e off) :
    (e = 40 ∧ off = 0) ∨ (c = 34 ∧ qLen r = none ∧ e = 41 ∧ off = 0) ∨ ∃ m, c = 34 ∧ qLen r = some m ∧ okL r < m ∧ e = 40 ∧ off = okL r + 1 := by
  rcases nextS_cases c r with ⟨_, e⟩ | ⟨hc, e⟩ | ⟨_, _, e⟩ | ⟨_, e⟩ | ⟨_, _, _, _, e⟩ <;> rw [e] at h
  · exact .inl (tokN_err h).2
  · rcases qTok_err h with h | ⟨m, h⟩
    · exact .inr (.inl ⟨hc, h⟩)
    · exact .inr (.inr ⟨m, hc, h⟩)
  · exact .inl (tokN_err h).2
  · exact .inl (tokN_err h).2
  · exact .inl (tokN_err h).2

/-- A scan from a place on. -/
inductive Sc : Nat → List UInt8 → Res → Prop
  | nil {p : Nat} : Sc p [] (.ok [])
  | blank {p : Nat} {c : UInt8} {r : List UInt8} {res : Res} : c = 32 → Sc (p + 1) r res → Sc p (c :: r) res
  | tok {p : Nat} {c : UInt8} {r t : List UInt8} {kd : Int} {n : Nat} {res : Res} : c ≠ 32 → nextS (c :: r) = .tok kd t n → Sc (p + n) ((c :: r).drop n) res → Sc p (c :: r) (res.put (kd, t, p))
  | err {p : Nat} {c : UInt8} {r : List UInt8} {e : Int} {off : Nat} : c ≠ 32 → nextS (c :: r) = .err e off → Sc p (c :: r) (.err e (p + off))
theorem Sc.all (d : Nat) : ∀ (l : List UInt8) (p : Nat), l.length ≤ d → ∃ res, Sc p l res := by
  induction d with
  | zero => intro l p h; rw [List.length_eq_zero_iff.mp (Nat.le_zero.mp h)]; exact ⟨_, .nil⟩
  | succ d ih =>
    intro l p h
    cases l with
    | nil => exact ⟨_, .nil⟩
    | cons c r =>
      by_cases hc : c = 32
      · obtain ⟨res, hr⟩ := ih r (p + 1) (by simp at h; omega)
        exact ⟨_, .blank hc hr⟩
      · cases hn : nextS (c :: r) with
        | tok kd t n =>
          have hl := nextS_tok hn
          obtain ⟨res, hr⟩ := ih ((c :: r).drop n) (p + n) (by rw [List.length_drop]; omega)
          exact ⟨_, .tok hc hn hr⟩
        | err e off => exact ⟨_, .err hc hn⟩
theorem Sc.some (l : List UInt8) (p : Nat) : ∃ res, Sc p l res := Sc.all _ l p (Nat.le_refl _)

/-! ### a text, written -/
/-- Each quote twice. -/
def dbl : List UInt8 → List UInt8
  | [] => []
  | c :: r => if c = 34 then 34 :: 34 :: dbl r else c :: dbl r
theorem dbl_quote (r : List UInt8) : dbl (34 :: r) = 34 :: 34 :: dbl r := by simp [dbl]
theorem dbl_other {c : UInt8} (r : List UInt8) (h : c ≠ 34) : dbl (c :: r) = c :: dbl r := by simp [dbl, h]
theorem qLen_shape {r : List UInt8} {m : Nat} (h : qLen r = some m) : ∃ rest, r = dbl (qSaid r) ++ 34 :: rest ∧ m = (dbl (qSaid r)).length + 1 ∧ (∀ d r', rest = d :: r' → d ≠ 34) := by
  induction r using qLen.induct generalizing m with
  | case1 => simp [qLen] at h
  | case2 c hc =>
    rw [qLen.eq_def] at h; simp [hc] at h; subst h
    refine ⟨[], ?_, ?_, by intro d r' h; cases h⟩ <;> simp [qSaid, hc, dbl, c34.mp hc]
  | case3 c hc d r' hd ih =>
    rw [qLen.eq_def] at h
    simp only [hc, hd, if_true, Option.map_eq_some_iff] at h
    obtain ⟨a, ha, rfl⟩ := h
    obtain ⟨rest, h1, h2, h3⟩ := ih ha
    have e : qSaid (c :: d :: r') = 34 :: qSaid r' := by simp [qSaid, hc, hd, c34.mp hc]
    refine ⟨rest, ?_, ?_, h3⟩
    · rw [e, dbl_quote, c34.mp hc, c34.mp hd]
      show 34 :: 34 :: r' = 34 :: 34 :: (dbl (qSaid r') ++ 34 :: rest)
      rw [← h1]
    · rw [e, dbl_quote, h2]; simp
  | case4 c hc d r' hd =>
    rw [qLen.eq_def] at h
    simp [hc, hd] at h; subst h
    have e : qSaid (c :: d :: r') = [] := by simp [qSaid, hc, hd]
    refine ⟨d :: r', ?_, ?_, by intro d' r'' h; cases h; exact fun h => hd (c34.mpr h)⟩
    · rw [e]; simp [dbl, c34.mp hc]
    · rw [e]; simp [dbl]
  | case5 c r hc ih =>
    rw [qLen.eq_def] at h
    simp only [hc, if_false, Option.map_eq_some_iff] at h
    obtain ⟨a, ha, rfl⟩ := h
    obtain ⟨rest, h1, h2, h3⟩ := ih ha
    have e : qSaid (c :: r) = c :: qSaid r := by rw [qSaid.eq_def]; simp [hc]
    have hc' : c ≠ 34 := fun h => hc (c34.mpr h)
    refine ⟨rest, ?_, ?_, h3⟩
    · rw [e, dbl_other _ hc', List.cons_append, ← h1]
    · rw [e, dbl_other _ hc', h2]; simp
theorem qLen_dbl (u rest : List UInt8) (h : ∀ d r', rest = d :: r' → d ≠ 34) : qLen (dbl u ++ 34 :: rest) = some ((dbl u).length + 1) ∧ qSaid (dbl u ++ 34 :: rest) = u := by
  induction u with
  | nil =>
    cases rest with
    | nil => constructor <;> simp [dbl, qLen, qSaid]
    | cons d r' =>
      have hd : ¬ (d.toNat : Int) = 34 := fun e => h d r' rfl (c34.mp e)
      constructor
      · simp [dbl, qLen, hd]
      · simp [dbl, qSaid, hd]
  | cons c u ih =>
    by_cases hc : c = 34
    · subst hc
      rw [dbl_quote]
      constructor
      · show qLen (34 :: 34 :: (dbl u ++ 34 :: rest)) = _
        rw [qLen.eq_def]
        simp [ih.1]
      · show qSaid (34 :: 34 :: (dbl u ++ 34 :: rest)) = _
        rw [qSaid.eq_def]
        simp [ih.2]
    · rw [dbl_other _ hc]
      have hc' : ¬ (c.toNat : Int) = 34 := fun e => hc (c34.mp e)
      constructor
      · show qLen (c :: (dbl u ++ 34 :: rest)) = _
        rw [qLen.eq_def]
        simp only [hc', if_false, ih.1]
        rfl
      · show qSaid (c :: (dbl u ++ 34 :: rest)) = _
        rw [qSaid.eq_def]
        simp only [hc', if_false, ih.2]

/-! ### the library's ReplaceAll at two texts that differ -/
theorem rA_eq {old new : List UInt8} (hn : old ≠ new) (s : List UInt8) : Lib.replaceAll s old new = Lib.replaceK old new (Lib.count s old) s := by
  unfold Lib.replaceAll Lib.replace
  rw [if_neg (by simpa using hn)]
  unfold Lib.replaceNum
  rw [if_pos (Or.inl (by decide))]
theorem rK_miss {old new : List UInt8} {k : Nat} {s : List UInt8} (h : Lib.index s old = -1) : Lib.replaceK old new k s = s := by
  cases k with
  | zero => rfl
  | succ k => rw [Lib.replaceK, if_pos (by rw [h]; decide)]
theorem rA_nil {old new : List UInt8} (h0 : old ≠ []) (hn : old ≠ new) : Lib.replaceAll [] old new = [] := by
  rw [rA_eq hn]
  apply rK_miss
  unfold Lib.index
  rw [if_neg (by simpa using h0)]
theorem rA_hit {old new : List UInt8} (h0 : old ≠ []) (hn : old ≠ new) (r : List UInt8) : Lib.replaceAll (old ++ r) old new = new ++ Lib.replaceAll r old new := by
  rw [rA_eq hn, rA_eq hn]
  have hi : Lib.index (old ++ r) old = (0 : Nat) := Lib.index_first (Nat.zero_le _) (by simp [Lib.occAt]) (fun _ h => absurd h (Nat.not_lt_zero _))
  rw [Lib.count_hit h0 hi, Nat.zero_add, List.drop_left, Nat.add_comm, Lib.replaceK_hit _ _ _ _ _ hi]
  simp
theorem rA_skip {old new : List UInt8} (h0 : old ≠ []) (hn : old ≠ new) {b : UInt8} {l : List UInt8} (hp : old.isPrefixOf (b :: l) = false) : Lib.replaceAll (b :: l) old new = b :: Lib.replaceAll l old new := by
  rw [rA_eq hn, rA_eq hn]
  have hix : Lib.index (b :: l) old = if Lib.index l old == -1 then -1 else Lib.index l old + 1 := by
    conv => lhs; unfold Lib.index
    rw [if_neg (by rw [hp]; decide)]
  by_cases hm : Lib.index l old = -1
  · rw [if_pos (by rw [hm]; decide)] at hix
    rw [rK_miss hix, rK_miss hm]
  · rw [if_neg (by simpa using hm)] at hix
    have hge := Lib.index_ge l old
    obtain ⟨i, hi⟩ : ∃ i : Nat, Lib.index l old = i := ⟨(Lib.index l old).toNat, by omega⟩
    have hi' : Lib.index (b :: l) old = (i + 1 : Nat) := by rw [hix, hi]; rfl
    rw [Lib.count_hit h0 hi', Lib.count_hit h0 hi, show i + 1 + old.length = (i + old.length) + 1 by omega, List.drop_succ_cons,
      Nat.add_comm 1, Lib.replaceK_hit _ _ _ _ _ hi', Lib.replaceK_hit _ _ _ _ _ hi, show i + 1 + old.length = (i + old.length) + 1 by omega, List.drop_succ_cons]
    rfl
theorem replace_two (u : List UInt8) : Lib.replaceAll u [34] [34, 34] = dbl u := by
  induction u with
  | nil => exact rA_nil (by decide) (by decide)
  | cons c u ih =>
    by_cases hc : c = 34
    · subst hc
      rw [dbl_quote, ← ih]
      exact rA_hit (old := [34]) (by decide) (by decide) u
    · rw [dbl_other _ hc, ← ih]
      exact rA_skip (by decide) (by decide) (by simpa [List.isPrefixOf] using fun h => hc h.symm)
theorem replace_one (u : List UInt8) : Lib.replaceAll (dbl u) [34, 34] [34] = u := by
  induction u with
  | nil => exact rA_nil (by decide) (by decide)
  | cons c u ih =>
    by_cases hc : c = 34
    · subst hc
      rw [dbl_quote]
      have := rA_hit (old := [34, 34]) (new := [34]) (by decide) (by decide) (dbl u)
      rw [ih] at this
      exact this
    · rw [dbl_other _ hc]
      rw [rA_skip (by decide) (by decide) (by simpa [List.isPrefixOf] using fun h => absurd h.symm hc), ih]

end Go.Proofs.YtceldhkfidmfkaaDoor.Plain
