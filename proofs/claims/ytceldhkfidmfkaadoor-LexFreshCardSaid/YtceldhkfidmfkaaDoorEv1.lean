/- What the two scanners answer: both are the plain scan; no program here. -/
import Derived.Test.YtceldhkfidmfkaaDoorLx13
import Derived.Test.YtceldhkfidmfkaaDoorLx5
import Derived.Test.YtceldhkfidmfkaaDoorLx12
import Derived.Test.YtceldhkfidmfkaaDoorLx4
import Derived.Test.YtceldhkfidmfkaaDoorSc
namespace Go.Proofs.YtceldhkfidmfkaaDoor.L
open Go Go.RowKit Go.Proofs.YtceldhkfidmfkaaDoorW.PrintWords Go.Proofs.YtceldhkfidmfkaaDoorW.PrintLast Go.Proofs.YtceldhkfidmfkaaDoorW.PrintMore
open Go.Proofs.YtceldhkfidmfkaaDoor.Plain
set_option linter.unusedSimpArgs false
set_option linter.unusedVariables false

/-- A token as the program has it. -/
def toS (t : Tk) : S31 := ⟨t.1, ⟨t.2.1.toArray⟩, (t.2.2 : Int)⟩
/-- What a scan hands back, of the tokens so far. -/
def outR (acc : List S31) : Res → List S31 × Int × Int
  | .ok l => (acc ++ l.map toS, 0, 0)
  | .err e p => ([], e, (p : Int))
theorem outR_put (acc : List S31) (t : Tk) (res : Res) : outR acc (res.put t) = outR (acc ++ [toS t]) res := by
  cases res with
  | ok l => simp [Res.put, outR]
  | err e p => rfl

theorem dr_drop (s : ByteArray) (p n : Nat) : (dr s (p : Int)).drop n = dr s ((p + n : Nat) : Int) := by
  unfold dr
  rw [List.drop_drop]
  congr 1
theorem nextS_e {c : UInt8} {r : List UInt8} {e : Int} {off : Nat} (h : nextS (c :: r) = .err e off) : e ≠ 0 := by
  rcases nextS_err h with h | h | ⟨m, h⟩
  · rw [h.1]; decide
  · rw [h.2.2.1]; decide
  · rw [h.2.2.2.1]; decide

theorem nextS_off {c : UInt8} {r : List UInt8} {e : Int} {off : Nat} (h : nextS (c :: r) = .err e off) : off ≤ r.length := by
  rcases nextS_err h with h | h | ⟨m, h⟩
  · rw [h.2]; omega
  · rw [h.2.2.2]; omega
  · rw [h.2.2.2.2]
    have := (qLen_le h.2.1).2
    omega

theorem refScan (s : ByteArray) (hs : s.size ≤ 1024) {p : Nat} {l : List UInt8} {res : Res} (h : Sc p l res) : ∀ acc : List S31, dr s (p : Int) = l → p ≤ s.size → acc.length ≤ p →
    Ev (fun k => whittleref4_Scan.l0 k s acc (p : Int)) (outR acc res) := by
  induction h with
  | @nil p =>
    intro acc hl hp ha
    have hn : ¬ (p : Int) < (s.size : Int) := by
      have := dr_len s (p : Int); rw [hl] at this; simp at this; omega
    refine Ev.step (f := fun _ => some (acc, 0, 0)) (fun k => by simp only [whittleref4_Scan.l0]; rw [if_neg hn]) ?_
    simpa [outR] using Ev.now (acc, (0 : Int), (0 : Int))
  | @blank p c r res hc _ ih =>
    intro acc hl hp ha
    have hlen : p < s.size := by have := dr_len s (p : Int); rw [hl] at this; simp at this; omega
    obtain ⟨c', hc', hb⟩ := dr_cons (s := s) (i := (p : Int)) (by omega) (by omega)
    rw [hl] at hc'
    injection hc' with e1 e2
    subst e1
    refine Ev.step (f := fun k => whittleref4_Scan.l0 k s acc ((p + 1 : Nat) : Int)) (fun k => ?_) (ih acc (by rw [e2]; rfl) (by omega) (by omega))
    simp only [whittleref4_Scan.l0]
    rw [if_pos (by omega), if_pos (by omega), hb, if_pos (c32.mpr hc), w64 (x := (p : Int) + 1) (by omega) (by omega)]
    rfl
  | @tok p c r t kd n res hc hn _ ih =>
    intro acc hl hp ha
    have hlen : p < s.size := by have := dr_len s (p : Int); rw [hl] at this; simp at this; omega
    obtain ⟨c', hc', hb⟩ := dr_cons (s := s) (i := (p : Int)) (by omega) (by omega)
    have hk := nextS_tok hn
    have hln : (c :: r).length = s.size - p := by rw [← hl]; exact dr_len s (p : Int)
    rw [hl] at hc'
    injection hc' with e1 e2
    subst e1
    have hone : whittleref4_one.f s (p : Int) = some (kd, ⟨t.toArray⟩, (p : Int), ((p + n : Nat) : Int), 0, 0) := by
      unfold whittleref4_one.f oneS
      rw [if_pos (by omega), if_pos (by omega), if_pos (by omega), hl, hn]
      rfl
    refine Ev.step (f := fun k => whittleref4_Scan.l0 k s (acc ++ [toS (kd, t, p)]) ((p + n : Nat) : Int)) (fun k => ?_) ?_
    · simp only [whittleref4_Scan.l0]
      rw [if_pos (by omega), if_pos (by omega), hb, if_neg (fun h => hc (c32.mp h)), hone]
      simp only [Option.bind_some]
      rw [if_pos trivial, if_pos (by omega)]
      rfl
    · rw [outR_put]
      exact ih _ (by rw [← dr_drop, hl]) (by omega) (by simp; omega)
  | @err p c r e off hc hn =>
    intro acc hl hp ha
    have hlen : p < s.size := by have := dr_len s (p : Int); rw [hl] at this; simp at this; omega
    obtain ⟨c', hc', hb⟩ := dr_cons (s := s) (i := (p : Int)) (by omega) (by omega)
    rw [hl] at hc'
    injection hc' with e1 e2
    subst e1
    have hone : whittleref4_one.f s (p : Int) = some (0, ⟨#[]⟩, (p : Int), 0, e, (p : Int) + (off : Int)) := by
      unfold whittleref4_one.f oneS
      rw [if_pos (by omega), if_pos (by omega), if_pos (by omega), hl, hn]
    refine Ev.step (f := fun _ => some (outR acc (.err e (p + off)))) (fun k => ?_) (Ev.now _)
    simp only [whittleref4_Scan.l0]
    rw [if_pos (by omega), if_pos (by omega), hb, if_neg (fun h => hc (c32.mp h)), hone]
    simp only [Option.bind_some]
    rw [if_neg (nextS_e hn)]
    rfl
theorem dr_zero (s : ByteArray) : dr s ((0 : Nat) : Int) = s.data.toList := rfl
theorem refScan_f (s : ByteArray) (hs : s.size ≤ 1024) {res : Res} (h : Sc 0 s.data.toList res) : Ev (fun k => whittleref4_Scan.f k s) (outR [] res) :=
  Ev.congr (f := fun k => whittleref4_Scan.l0 k s [] ((0 : Nat) : Int)) (fun k => by unfold whittleref4_Scan.f; rw [if_neg (by omega)]; rfl) (refScan s hs h [] (dr_zero s) (by omega) (by simp))
theorem refScan_long (s : ByteArray) (hs : ¬ s.size ≤ 1024) : Ev (fun k => whittleref4_Scan.f k s) ([], 2, 0) :=
  Ev.congr (f := fun _ => some ([], 2, 0)) (fun k => by unfold whittleref4_Scan.f; rw [if_pos (by omega)]) (Ev.now _)

/-! ### lex.begins -/
theorem lex_hasPrefix (s t : ByteArray) : strings_HasPrefix.f s t = some (t.data.toList.isPrefixOf s.data.toList) := by
  unfold strings_HasPrefix.f stringslite_HasPrefix.f
  have hpre : t.data.toList.isPrefixOf s.data.toList = (s.data.toList.take t.size == t.data.toList) := by
    rw [Bool.eq_iff_iff, List.isPrefixOf_iff_prefix, beq_iff_eq, List.prefix_iff_eq_take]
    rw [show t.data.toList.length = t.size by simp]
    exact eq_comm
  by_cases hle : (s.size : Int) ≥ (t.size : Int)
  · rw [if_pos hle, if_pos (by omega), if_pos (by omega), hpre, toList_data, toList_data]
    have := ext_list s 0 t.size
    rw [Nat.zero_add] at this
    rw [show ((t.size : Int)).toNat = t.size by omega, this]
    rfl
  · rw [if_neg hle, hpre]
    simp only [Option.bind_some]
    congr 1
    symm
    rw [beq_eq_false_iff_ne]
    intro h
    have := congrArg List.length h
    rw [List.length_take] at this
    simp at this
    omega
/-- The first of some texts that stands at the head. -/
def fstB (l : List UInt8) : List ByteArray → ByteArray
  | [] => ⟨#[]⟩
  | t :: ts => if t.data.toList.isPrefixOf l = true then t else fstB l ts
theorem fstB_size (l : List UInt8) (ts : List ByteArray) : (fstB l ts).size = begL l (ts.map fun t => t.data.toList) := by
  induction ts with
  | nil => rfl
  | cons t ts ih =>
    rw [List.map_cons]
    unfold fstB begL
    split
    · simp
    · exact ih
theorem lex_begins_ev (s : ByteArray) (ts : List ByteArray) (ht : ts.length ≤ 100) (d : Nat) : ∀ j : Nat, j + d = ts.length →
    Ev (fun k => lex_begins.l0 k s ts (ts.length : Int) (j : Int)) (fstB s.data.toList (ts.drop j)) := by
  induction d with
  | zero =>
    intro j hj
    refine Ev.step (f := fun _ => some (⟨#[]⟩ : ByteArray)) (fun k => by simp only [lex_begins.l0]; rw [if_neg (by omega)]) ?_
    rw [List.drop_eq_nil_iff.mpr (by omega)]
    exact Ev.now _
  | succ d ih =>
    intro j hj
    have hl : j < ts.length := by omega
    have hrd : rdOf ByteArray.empty ts (j : Int) = ts[j] := by
      unfold rdOf
      rw [show ((j : Int)).toNat = j by omega, List.getD_eq_getElem?_getD, List.getElem?_eq_getElem hl]
      rfl
    rw [List.drop_eq_getElem_cons hl]
    have hstep : ∀ k, lex_begins.l0 (k + 1) s ts (ts.length : Int) (j : Int) = if ts[j].data.toList.isPrefixOf s.data.toList = true then some ts[j] else lex_begins.l0 k s ts (ts.length : Int) ((j + 1 : Nat) : Int) := by
      intro k
      simp only [lex_begins.l0]
      rw [if_pos (by omega), if_pos (by omega), if_pos (by omega), hrd, lex_hasPrefix, w64 (x := (j : Int) + 1) (by omega) (by omega)]
      rfl
    unfold fstB
    cases hp : ts[j].data.toList.isPrefixOf s.data.toList with
    | true =>
      rw [if_pos rfl]
      exact Ev.step (f := fun _ => some ts[j]) (fun k => by rw [hstep, hp, if_pos rfl]) (Ev.now _)
    | false =>
      rw [if_neg (by decide)]
      exact Ev.step (f := fun k => lex_begins.l0 k s ts (ts.length : Int) ((j + 1 : Nat) : Int)) (fun k => by rw [hstep, hp, if_neg (by decide)]) (ih (j + 1) (by omega))
theorem lex_begins_f (s : ByteArray) (ts : List ByteArray) (ht : ts.length ≤ 100) : Ev (fun k => lex_begins.f k s ts) (fstB s.data.toList ts) := by
  have := lex_begins_ev s ts ht ts.length 0 (by omega)
  exact this

/-! ### lex.quoted -/
theorem ix_none : ∀ {M : List UInt8}, Lib.indexByte M 34 = -1 → qLen M = none
  | [], _ => rfl
  | c :: r, h => by
    unfold Lib.indexByte at h
    split at h
    · simp at h
    · rename_i hc
      have hc' : ¬ (c.toNat : Int) = 34 := fun e => hc (by rw [c34.mp e]; rfl)
      have hr : Lib.indexByte r 34 = -1 := by
        split at h
        · rename_i hr; exact beq_iff_eq.mp hr
        · have := Lib.indexByte_ge r 34; omega
      rw [qLen.eq_def]
      simp only [hc', if_false, ix_none hr]
      rfl
theorem ix_some : ∀ {M : List UInt8} {k : Nat}, Lib.indexByte M 34 = (k : Int) → ∃ pre rest, M = pre ++ 34 :: rest ∧ pre.length = k ∧ qLen M = (qLen (34 :: rest)).map (· + k)
  | [], k, h => by unfold Lib.indexByte at h; omega
  | c :: r, k, h => by
    unfold Lib.indexByte at h
    split at h
    · rename_i hc
      have : k = 0 := by omega
      subst this
      have hc' : c = 34 := by simpa using hc
      subst hc'
      refine ⟨[], r, rfl, rfl, ?_⟩
      cases qLen (34 :: r) <;> rfl
    · rename_i hc
      have hc' : ¬ (c.toNat : Int) = 34 := fun e => hc (by rw [c34.mp e]; rfl)
      split at h
      · omega
      · have hge := Lib.indexByte_ge r 34
        rename_i hne
        have hne' : Lib.indexByte r 34 ≠ -1 := by simpa using hne
        obtain ⟨k', hk'⟩ : ∃ k' : Nat, Lib.indexByte r 34 = (k' : Int) := ⟨(Lib.indexByte r 34).toNat, by omega⟩
        obtain ⟨pre, rest, h1, h2, h3⟩ := ix_some hk'
        refine ⟨c :: pre, rest, by rw [h1]; rfl, by simp; omega, ?_⟩
        rw [qLen.eq_def]
        simp only [hc', if_false, h3, Option.map_map]
        have : k = k' + 1 := by omega
        subst this
        congr 1
/-- What lex.quoted answers. -/
def quR (l : List UInt8) : ByteArray × Int × Int :=
  match qTok (l.drop 1) with
  | .tok _ t n => (⟨t.toArray⟩, (n : Int), 0)
  | .err e off => (⟨#[]⟩, (off : Int), e)
theorem quoted_l1 (s : ByteArray) (hs : s.size ≤ 1024) (E : Nat) (hE : E ≤ s.size) (hE2 : 2 ≤ E) (d : Nat) : ∀ j : Nat, j + d = E →
    Ev (fun k => lex_quoted.l1 k s (E : Int) (E : Int) (j : Int)) (if okL (dr s (j : Int)) < d then ((⟨#[]⟩ : ByteArray), ((j + okL (dr s (j : Int)) : Nat) : Int), 40)
      else (⟨(Lib.replaceAll ((s.data.toList.drop 1).take (E - 2)) [34, 34] [34]).toArray⟩, (E : Int), 0)) := by
  induction d with
  | zero =>
    intro j hj
    rw [if_neg (by omega)]
    refine Ev.step (f := fun _ => some (⟨(Lib.replaceAll ((s.data.toList.drop 1).take (E - 2)) [34, 34] [34]).toArray⟩, (E : Int), 0)) (fun k => ?_) (Ev.now _)
    simp only [lex_quoted.l1]
    rw [if_neg (by omega), w64 (x := (E : Int) - 1) (by omega) (by omega), if_pos (by omega), if_pos (by omega)]
    unfold strings_ReplaceAll.f
    have hsz : (s.extract 1 ((E : Int) - 1).toNat).size ≤ 1073741824 := by rw [ByteArray.size_extract]; omega
    rw [if_pos ⟨hsz, by decide, by decide⟩]
    simp only [Option.bind_some]
    have := ext_list s 1 (E - 2)
    rw [show ((E : Int) - 1).toNat = 1 + (E - 2) by omega, this]
  | succ d ih =>
    intro j hj
    obtain ⟨c, hc, hb⟩ := dr_cons (s := s) (i := (j : Int)) (by omega) (by omega)
    have hstep : ∀ k, lex_quoted.l1 (k + 1) s (E : Int) (E : Int) (j : Int) = if badB (c.toNat : Int) = true then some ((⟨#[]⟩ : ByteArray), (j : Int), 40) else lex_quoted.l1 k s (E : Int) (E : Int) ((j + 1 : Nat) : Int) := by
      intro k
      simp only [lex_quoted.l1]
      rw [if_pos (by omega), if_pos (by omega), if_pos (by omega), hb, w64 (x := (j : Int) + 1) (by omega) (by omega)]
      unfold badB
      by_cases h1 : (c.toNat : Int) < 32
      · simp [h1]
      · by_cases h2 : (c.toNat : Int) > 126
        · rw [if_neg h1, if_pos h2, if_pos (by simp; omega)]
        · rw [if_neg h1, if_neg h2, if_neg (by simp; omega)]
          rfl
    cases hbad : badB (c.toNat : Int) with
    | true =>
      refine Ev.step (f := fun _ => some ((⟨#[]⟩ : ByteArray), (j : Int), 40)) (fun k => by rw [hstep, hbad, if_pos rfl]) ?_
      rw [hc, okL_bad _ hbad, if_pos (by omega)]
      exact Ev.now _
    | false =>
      refine Ev.step (f := fun k => lex_quoted.l1 k s (E : Int) (E : Int) ((j + 1 : Nat) : Int)) (fun k => by rw [hstep, hbad, if_neg (by decide)]) ?_
      have := ih (j + 1) (by omega)
      rw [hc, okL_ok _ hbad]
      have e : dr s ((j + 1 : Nat) : Int) = dr s ((j : Int) + 1) := rfl
      rw [e] at this
      by_cases ho : okL (dr s ((j : Int) + 1)) < d
      · rw [if_pos ho] at this
        rw [if_pos (by omega), show j + (okL (dr s ((j : Int) + 1)) + 1) = j + 1 + okL (dr s ((j : Int) + 1)) by omega]
        exact this
      · rw [if_neg ho] at this
        rw [if_neg (by omega)]
        exact this
theorem quoted_j1 (s : ByteArray) (hs : s.size ≤ 1024) {m : Nat} (h0 : 0 < s.size) (hq : s.data.toList.head? = some 34) (hm : qLen (s.data.toList.drop 1) = some m) :
    Ev (fun k => lex_quoted.j1 k s ((m + 1 : Nat) : Int)) (quR s.data.toList) := by
  have hml := qLen_le hm
  rw [List.length_drop] at hml
  have hsz : s.data.toList.length = s.size := by simp
  refine Ev.step (f := fun k => lex_quoted.l1 k s ((m + 1 : Nat) : Int) ((m + 1 : Nat) : Int) ((0 : Nat) : Int)) (fun k => rfl) ?_
  have := quoted_l1 s hs (m + 1) (by omega) (by omega) (m + 1) 0 (by omega)
  obtain ⟨rest, h1, h2, h3⟩ := qLen_shape hm
  have hL : s.data.toList = 34 :: s.data.toList.drop 1 := by
    cases hl : s.data.toList with
    | nil => rw [hl] at hq; cases hq
    | cons c r => rw [hl] at hq; simp at hq; rw [hq]; rfl
  have hok : okL (dr s ((0 : Nat) : Int)) = okL (s.data.toList.drop 1) + 1 := by rw [dr_zero, hL]; exact okL_ok _ (by decide)
  rw [hok] at this
  have hR : quR s.data.toList = if okL (s.data.toList.drop 1) + 1 < m + 1 then ((⟨#[]⟩ : ByteArray), ((0 + (okL (s.data.toList.drop 1) + 1) : Nat) : Int), 40)
      else (⟨(Lib.replaceAll ((s.data.toList.drop 1).take (m + 1 - 2)) [34, 34] [34]).toArray⟩, ((m + 1 : Nat) : Int), 0) := by
    unfold quR qTok
    rw [hm]
    simp only
    by_cases ho : okL (s.data.toList.drop 1) < m
    · rw [if_pos ho, if_pos (by omega)]
      simp
    · rw [if_neg ho, if_neg (by omega)]
      simp only
      have ht : (s.data.toList.drop 1).take (m + 1 - 2) = dbl (qSaid (s.data.toList.drop 1)) := by
        conv => lhs; rw [h1]
        rw [show m + 1 - 2 = (dbl (qSaid (s.data.toList.drop 1))).length by omega, List.take_left]
      rw [ht, replace_one]
  rw [hR]
  exact this
end Go.Proofs.YtceldhkfidmfkaaDoor.L
