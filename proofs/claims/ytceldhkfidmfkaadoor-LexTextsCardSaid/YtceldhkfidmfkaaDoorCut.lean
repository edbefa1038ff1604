/- Of a scan: what is cut off behind, parted by blanks, moved, written and scanned again; no program here. -/
import Derived.Test.YtceldhkfidmfkaaDoorLoc
namespace Go.Proofs.YtceldhkfidmfkaaDoor.Plain
open Go
set_option linter.unusedSimpArgs false

theorem put_err {t : Tk} {res : Res} {e : Int} {pe : Nat} (h : res.put t = .err e pe) : res = .err e pe := by
  cases res with
  | ok l => cases h
  | err e' p' => exact h
theorem put_ok {t : Tk} {res : Res} {ts : List Tk} (h : res.put t = .ok ts) : ∃ l, res = .ok l ∧ ts = t :: l := by
  cases res with
  | ok l =>
    simp only [Res.put, Res.ok.injEq] at h
    exact ⟨l, rfl, h.symm⟩
  | err e' p' => cases h

theorem Sc.err_in {p : Nat} {l : List UInt8} {res : Res} (h : Sc p l res) : ∀ e pe, res = .err e pe → p ≤ pe ∧ pe < p + l.length ∧ (e = 40 ∨ e = 41) := by
  induction h with
  | nil => intro e pe he; cases he
  | @blank p c r res hc _ ih => intro e pe he; have := ih e pe he; simp; omega
  | @tok p c r t kd n res hc hn _ ih =>
    intro e pe he
    have := ih e pe (put_err he)
    have hk := nextS_tok hn
    rw [List.length_drop] at this
    omega
  | @err p c r e off hc hn =>
    intro e' pe he
    injection he with h1 h2
    subst h1 h2
    rcases nextS_err hn with h | h | ⟨m, h⟩
    · rw [h.2, h.1]; simp
    · rw [h.2.2.2, h.2.2.1]; simp
    · rw [h.2.2.2.2, h.2.2.2.1]
      have := (qLen_le h.2.1).2
      simp; omega
/-- What stands ahead of a refused byte is scanned, or ends in a text. -/
theorem Sc.cut {p : Nat} {l : List UInt8} {res : Res} (h : Sc p l res) : ∀ e pe, res = .err e pe → ∃ res', Sc p (l.take (pe - p)) res' ∧ ((∃ ts, res' = .ok ts) ∨ ∃ p', res' = .err 41 p') := by
  induction h with
  | nil => intro e pe he; cases he
  | @blank p c r res hc hr ih =>
    intro e pe he
    obtain ⟨res', h1, h2⟩ := ih e pe he
    have := Sc.err_in hr e pe he
    rw [show pe - p = (pe - (p + 1)) + 1 by omega, List.take_succ_cons]
    exact ⟨res', .blank hc h1, h2⟩
  | @tok p c r t kd n res hc hn hr ih =>
    intro e pe he
    obtain ⟨res', h1, h2⟩ := ih e pe (put_err he)
    have hb := Sc.err_in hr e pe (put_err he)
    have hk := nextS_tok hn
    have hl := loc (X := []) (q := pe - p) hn (by omega) (.inl rfl)
    rw [List.append_nil] at hl
    have hd : ((c :: r).take (pe - p)).drop n = ((c :: r).drop n).take (pe - (p + n)) := by rw [List.drop_take]; congr 1; omega
    rw [← hd] at h1
    have hcons : (c :: r).take (pe - p) = c :: r.take (pe - p - 1) := by
      rw [show pe - p = (pe - p - 1) + 1 by omega, List.take_succ_cons]
      rfl
    rw [hcons] at hl h1 ⊢
    refine ⟨_, .tok hc hl h1, ?_⟩
    rcases h2 with ⟨ts, rfl⟩ | ⟨p', rfl⟩
    · exact .inl ⟨_, rfl⟩
    · exact .inr ⟨p', rfl⟩
  | @err p c r e off hc hn =>
    intro e' pe he
    injection he with h1 h2
    subst h1 h2
    rw [show p + off - p = off by omega]
    rcases nextS_err hn with h | h | ⟨m, h⟩
    · rw [h.2]; exact ⟨_, .nil, .inl ⟨_, rfl⟩⟩
    · rw [h.2.2.2]; exact ⟨_, .nil, .inl ⟨_, rfl⟩⟩
    · obtain ⟨rfl, hm, ho, _, rfl⟩ := h
      rw [List.take_succ_cons]
      have hq : nextS (34 :: r.take (okL r)) = .err 41 0 := by
        rw [nextS_q]
        unfold qTok
        rw [qcut hm ho]
      exact ⟨_, .err hc hq, .inr ⟨_, rfl⟩⟩

/-! ### blanks between -/
def mv (d : Nat) (t : Tk) : Tk := (t.1, t.2.1, t.2.2 + d)
def Res.mv (d : Nat) : Res → Res
  | .ok l => .ok (l.map (Plain.mv d))
  | .err e p => .err e (p + d)
theorem Sc.move {p : Nat} {l : List UInt8} {res : Res} (h : Sc p l res) (d : Nat) : Sc (p + d) l (res.mv d) := by
  induction h with
  | nil => exact .nil
  | @blank p c r res hc _ ih =>
    rw [show p + 1 + d = p + d + 1 by omega] at ih
    exact .blank hc ih
  | @tok p c r t kd n res hc hn _ ih =>
    rw [show p + n + d = p + d + n by omega] at ih
    have := Sc.tok (p := p + d) hc hn ih
    cases res <;> exact this
  | @err p c r e off hc hn =>
    have := Sc.err (p := p + d) hc hn
    rw [show p + d + off = p + off + d by omega] at this
    exact this
theorem Sc.blanks {res : Res} {l : List UInt8} : ∀ (d p : Nat), Sc (p + d) l res → Sc p (List.replicate d 32 ++ l) res
  | 0, p, h => by simpa using h
  | d + 1, p, h => by
    rw [List.replicate_succ, List.cons_append]
    exact .blank rfl (Sc.blanks d (p + 1) (by rw [show p + 1 + d = p + (d + 1) by omega]; exact h))
/-- The place ahead of token i; behind all: the end. -/
def cutAt (e : Nat) : List Tk → Nat → Nat
  | [], _ => e
  | t :: _, 0 => t.2.2
  | _ :: ts, i + 1 => cutAt e ts i
theorem Sc.cutAt_in {p : Nat} {l : List UInt8} {res : Res} (h : Sc p l res) : ∀ ts i, res = .ok ts → p ≤ cutAt (p + l.length) ts i ∧ cutAt (p + l.length) ts i ≤ p + l.length := by
  induction h with
  | nil => intro ts i e; cases e; simp [cutAt]
  | @blank p c r res hc _ ih =>
    intro ts i e
    have := ih ts i e
    rw [show p + 1 + r.length = p + (c :: r).length by simp; omega] at this
    omega
  | @tok p c r t kd n res hc hn _ ih =>
    intro ts i e
    have hk := nextS_tok hn
    obtain ⟨l', rfl, rfl⟩ := put_ok e
    cases i with
    | zero => simp [cutAt]
    | succ i =>
      have := ih l' i rfl
      rw [List.length_drop, show p + n + ((c :: r).length - n) = p + (c :: r).length by omega] at this
      simp only [cutAt]
      omega
  | err => intro ts i e; cases e
theorem Sc.part {p : Nat} {l : List UInt8} {res : Res} (h : Sc p l res) (d : Nat) : ∀ ts i, res = .ok ts →
    Sc p (l.take (cutAt (p + l.length) ts i - p) ++ (List.replicate (d + 1) 32 ++ l.drop (cutAt (p + l.length) ts i - p))) (.ok (ts.take i ++ (ts.drop i).map (mv (d + 1)))) := by
  induction h with
  | @nil p =>
    intro ts i e
    cases e
    have h := Sc.blanks (res := .ok []) (l := []) (d + 1) p .nil
    simpa [cutAt] using h
  | @blank p c r res hc hr ih =>
    intro ts i e
    have hb := Sc.cutAt_in hr ts i e
    have h1 := ih ts i e
    rw [show p + 1 + r.length = p + (c :: r).length by simp; omega] at h1 hb
    rw [show cutAt (p + (c :: r).length) ts i - p = (cutAt (p + (c :: r).length) ts i - (p + 1)) + 1 by omega, List.take_succ_cons, List.drop_succ_cons, List.cons_append]
    exact .blank hc h1
  | @tok p c r t kd n res hc hn hr ih =>
    intro ts i e
    have hk := nextS_tok hn
    obtain ⟨l', rfl, rfl⟩ := put_ok e
    cases i with
    | zero =>
      simp only [cutAt, Nat.sub_self, List.take_zero, List.drop_zero, List.nil_append]
      have h1 := Sc.move (Sc.tok (p := p) hc hn hr) (d + 1)
      exact Sc.blanks (d + 1) p h1
    | succ i =>
      have hb := Sc.cutAt_in hr l' i rfl
      have h1 := ih l' i rfl
      rw [List.length_drop, show p + n + ((c :: r).length - n) = p + (c :: r).length by omega] at h1 hb
      simp only [cutAt]
      generalize cutAt (p + (c :: r).length) l' i = a at h1 hb
      have hl := loc (X := List.replicate (d + 1) 32 ++ (c :: r).drop (a - p)) (q := a - p) hn (by omega) (.inr ⟨_, by rw [List.replicate_succ, List.cons_append]⟩)
      have hd : ((c :: r).take (a - p) ++ (List.replicate (d + 1) 32 ++ (c :: r).drop (a - p))).drop n =
          ((c :: r).drop n).take (a - (p + n)) ++ (List.replicate (d + 1) 32 ++ ((c :: r).drop n).drop (a - (p + n))) := by
        rw [List.drop_append_of_le_length (by rw [List.length_take]; omega), List.drop_take, List.drop_drop]
        rw [show a - p - n = a - (p + n) by omega, show n + (a - (p + n)) = a - p by omega]
      rw [← hd] at h1
      have hcons : (c :: r).take (a - p) ++ (List.replicate (d + 1) 32 ++ (c :: r).drop (a - p)) = c :: (r.take (a - p - 1) ++ (List.replicate (d + 1) 32 ++ (c :: r).drop (a - p))) := by
        rw [show a - p = (a - p - 1) + 1 by omega, List.take_succ_cons]
        rfl
      rw [hcons] at hl h1 ⊢
      have := Sc.tok (p := p) hc hl h1
      simpa [Res.put] using this
  | err => intro ts i e; cases e

/-! ### written and scanned again -/
/-- How a token is written. -/
def piece (t : Tk) : List UInt8 := if t.1 = 2 then 34 :: (dbl t.2.1 ++ [34]) else t.2.1
def textL (first : Bool) : List Tk → List UInt8
  | [] => []
  | t :: ts => (if first then [] else [32]) ++ (piece t ++ textL false ts)
/-- A token that is scanned as it is written. -/
def Good (t : Tk) : Prop := ∀ X, Gap X → ∃ c r, piece t ++ X = c :: r ∧ c ≠ 32 ∧ nextS (c :: r) = .tok t.1 t.2.1 (piece t).length
theorem good_of {c : UInt8} {r t : List UInt8} {kd : Int} {n p : Nat} (hc : c ≠ 32) (h : nextS (c :: r) = .tok kd t n) : Good (kd, t, p) ∧ (piece (kd, t, p)).length = n := by
  have hk := nextS_tok h
  by_cases h2 : kd = 2
  · subst h2
    rcases nextS_cases c r with ⟨_, e⟩ | ⟨hc, e⟩ | ⟨_, _, e⟩ | ⟨_, e⟩ | ⟨_, _, _, _, e⟩ <;> rw [e] at h
    · exact absurd (tokN_tok h).1 (by decide)
    · subst hc
      obtain ⟨m, hm, ho, _, rfl, rfl⟩ := qTok_tok h
      obtain ⟨rest, h1, h2, h3⟩ := qLen_shape hm
      generalize hu : qSaid r = u at h1 h2
      have hpl : (piece (2, u, p)).length = m + 1 := by simp [piece]; omega
      refine ⟨fun X hX => ⟨34, dbl u ++ 34 :: X, by simp [piece], by decide, ?_⟩, hpl⟩
      rw [nextS_q]
      have ht : r.take m = dbl u ++ [34] := by
        rw [h1, show dbl u ++ 34 :: rest = (dbl u ++ [34]) ++ rest by simp, List.take_append_of_le_length (by simp; omega), List.take_of_length_le (by simp; omega)]
      have := qTok_app (X := X) (q := m) hX hm ho (Nat.le_refl _)
      rw [ht, hu, List.append_assoc] at this
      rw [hpl]
      exact this
    · exact absurd (tokN_tok h).1 (by decide)
    · exact absurd (tokN_tok h).1 (by decide)
    · exact absurd (tokN_tok h).1 (by decide)
  · have ht : t = (c :: r).take n := hk.2.2.2.2 h2
    have hp : piece (kd, t, p) = t := by simp [piece, h2]
    have hlen : t.length = n := by rw [ht, List.length_take]; omega
    refine ⟨fun X hX => ?_, by rw [hp, hlen]⟩
    have hl := loc h (Nat.le_refl n) hX
    obtain ⟨n', rfl⟩ : ∃ n', n = n' + 1 := ⟨n - 1, by omega⟩
    rw [hp, hlen]
    refine ⟨c, r.take n' ++ X, ?_, hc, ?_⟩
    · rw [ht, List.take_succ_cons, List.cons_append]
    · rw [List.take_succ_cons, List.cons_append] at hl
      exact hl
theorem Sc.good {p : Nat} {l : List UInt8} {res : Res} (h : Sc p l res) : ∀ ts, res = .ok ts → (∀ t, t ∈ ts → Good t) ∧ (textL false ts).length ≤ 2 * l.length := by
  induction h with
  | nil => intro ts e; cases e; exact ⟨fun _ h => (by cases h), by simp [textL]⟩
  | @blank p c r res hc _ ih =>
    intro ts e
    have := ih ts e
    exact ⟨this.1, by simp; omega⟩
  | @tok p c r t kd n res hc hn _ ih =>
    intro ts e
    have hk := nextS_tok hn
    obtain ⟨l', rfl, rfl⟩ := put_ok e
    have h1 := ih l' rfl
    have h2 := good_of (p := p) hc hn
    refine ⟨fun t ht => ?_, ?_⟩
    · rcases List.mem_cons.mp ht with rfl | ht
      · exact h2.1
      · exact h1.1 t ht
    · have h3 := h1.2
      rw [List.length_drop] at h3
      simp only [textL, List.length_append, Bool.false_eq_true, if_false, List.length_singleton, h2.2]
      simp only [List.length_cons] at *
      omega
  | err => intro ts e; cases e
/-- The same but for places. -/
def Alike (a b : List Tk) : Prop := a.map (fun t => (t.1, t.2.1)) = b.map (fun t => (t.1, t.2.1))
theorem textL_gap (ts : List Tk) : Gap (textL false ts) := by
  cases ts with
  | nil => exact .inl rfl
  | cons t ts => exact .inr ⟨_, rfl⟩
theorem Sc.back : ∀ (ts : List Tk) (p : Nat), (∀ t, t ∈ ts → Good t) → ∃ ts', Sc p (textL true ts) (.ok ts') ∧ Alike ts ts'
  | [], p, _ => ⟨[], .nil, rfl⟩
  | t :: ts, p, h => by
    obtain ⟨c, r, h1, h2, h3⟩ := h t List.mem_cons_self (textL false ts) (textL_gap ts)
    have hrest : ∃ ts', Sc (p + (piece t).length) (textL false ts) (.ok ts') ∧ Alike ts ts' := by
      cases ts with
      | nil => exact ⟨[], .nil, rfl⟩
      | cons t2 ts2 =>
        obtain ⟨ts', h4, h5⟩ := Sc.back (t2 :: ts2) (p + (piece t).length + 1) (fun t ht => h t (List.mem_cons_of_mem _ ht))
        exact ⟨ts', .blank rfl h4, h5⟩
    obtain ⟨ts', h4, h5⟩ := hrest
    have htl : textL true (t :: ts) = c :: r := by simp only [textL]; exact h1
    have hdrop : (c :: r).drop (piece t).length = textL false ts := by rw [← h1, List.drop_left]
    rw [htl]
    rw [← hdrop] at h4
    exact ⟨_, .tok h2 h3 h4, by unfold Alike at h5 ⊢; rw [List.map_cons, List.map_cons, h5]⟩
end Go.Proofs.YtceldhkfidmfkaaDoor.Plain
