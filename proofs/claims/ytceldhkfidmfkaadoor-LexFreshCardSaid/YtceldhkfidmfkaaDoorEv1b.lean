/- lex.quoted, its loop; no program here. -/
import Derived.Test.YtceldhkfidmfkaaDoorEv1
namespace Go.Proofs.YtceldhkfidmfkaaDoor.L
open Go Go.RowKit Go.Proofs.YtceldhkfidmfkaaDoorW.PrintWords Go.Proofs.YtceldhkfidmfkaaDoorW.PrintLast Go.Proofs.YtceldhkfidmfkaaDoorW.PrintMore
open Go.Proofs.YtceldhkfidmfkaaDoor.Plain
set_option linter.unusedSimpArgs false
set_option linter.unusedVariables false
theorem qLen34_two {e : UInt8} {r : List UInt8} (he : (e.toNat : Int) = 34) : qLen (34 :: e :: r) = (qLen r).map (· + 2) := by
  rw [c34.mp he]
  have := qLen.eq_def (34 :: 34 :: r)
  simpa using this
theorem qLen34_end {e : UInt8} {r : List UInt8} (he : ¬ (e.toNat : Int) = 34) : qLen (34 :: e :: r) = some 1 := by
  have := qLen.eq_def (34 :: e :: r)
  simpa [he] using this
theorem qLen34_nil : qLen [34] = some 1 := by
  have := qLen.eq_def [34]
  simpa using this
theorem map_two (o : Option Nat) (i x : Nat) (hx : 1 ≤ x) : ((o.map (· + 2)).map (· + i)).map (· + (x - 1)) = o.map (· + (x + i + 2 - 1)) := by
  cases o with
  | none => rfl
  | some a => simp only [Option.map_some]; congr 1; omega
theorem map_one (i x : Nat) (hx : 1 ≤ x) : (((some 1 : Option Nat).map (· + i)).map (· + (x - 1))) = some (x + i) := by
  simp only [Option.map_some]; congr 1; omega
theorem quoted_step (s : ByteArray) (hs : s.size ≤ 1024) (k x i : Nat) (hx : x ≤ s.size) (hi : x + i + 1 ≤ s.size) (hidx : strings_IndexByte.f (s.extract ((x : Int)).toNat s.size) 34 = some (i : Int)) :
    lex_quoted.l0 (k + 1) s (x : Int) = if ((x + i + 1 : Nat) : Int) = (s.size : Int) then lex_quoted.j1 k s ((x + i + 1 : Nat) : Int) else
      if bt s ((x + i + 1 : Nat) : Int) = 34 then lex_quoted.l0 k s ((x + i + 2 : Nat) : Int) else lex_quoted.j1 k s ((x + i + 1 : Nat) : Int) := by
  have hw : wrap64 ((x : Int) + wrap64 ((i : Int) + 1)) = ((x + i + 1 : Nat) : Int) := by
    rw [w64 (x := (i : Int) + 1) (by omega) (by omega), w64 (by omega) (by omega)]
    omega
  have hw3 : wrap64 (((x + i + 1 : Nat) : Int) + 1) = ((x + i + 2 : Nat) : Int) := by
    rw [w64 (by omega) (by omega)]
    omega
  have hn : ¬ (i : Int) < 0 := by omega
  have h0 : (0 : Int) ≤ (x : Int) := by omega
  have h1 : (x : Int) ≤ (s.size : Int) := by omega
  have h2 : (0 : Int) ≤ ((x + i + 1 : Nat) : Int) := by omega
  obtain ⟨y, hy⟩ : ∃ y : Int, ((x + i + 1 : Nat) : Int) = y := ⟨_, rfl⟩
  obtain ⟨z, hz⟩ : ∃ z : Int, ((x + i + 2 : Nat) : Int) = z := ⟨_, rfl⟩
  rw [hy] at hw hw3 h2 ⊢
  rw [hz] at hw3 ⊢
  have h3 : y ≤ (s.size : Int) := by omega
  have h4 : ¬ y = (s.size : Int) → y < (s.size : Int) := fun h => by omega
  clear hy hz hi
  simp only [lex_quoted.l0]
  rw [if_pos h0, if_pos h1, hidx, Option.bind_some, if_neg hn, hw]
  by_cases h5 : y = (s.size : Int)
  · rw [if_pos h5, if_pos h5]
  · rw [if_neg h5, if_neg h5, if_pos h2, if_pos (h4 h5), hw3]
theorem quoted_l0 (s : ByteArray) (hs : s.size ≤ 1024) (h0 : 0 < s.size) (hq : s.data.toList.head? = some 34) (d : Nat) : ∀ x : Nat, 1 ≤ x → x ≤ s.size → s.size - x ≤ d →
    qLen (s.data.toList.drop 1) = (qLen (s.data.toList.drop x)).map (· + (x - 1)) → Ev (fun k => lex_quoted.l0 k s (x : Int)) (quR s.data.toList) := by
  induction d using Nat.strongRecOn with
  | _ d ih =>
    intro x hx1 hx2 hd hqx
    have hsz : s.data.toList.length = s.size := by simp
    have hext : (s.extract ((x : Int)).toNat s.size).data.toList = s.data.toList.drop x := by rw [show ((x : Int)).toNat = x by omega]; exact Lib.extract_to_end s x
    have hidx : strings_IndexByte.f (s.extract ((x : Int)).toNat s.size) 34 = some (Lib.indexByte (s.data.toList.drop x) 34) := by
      unfold strings_IndexByte.f
      rw [hext, show ((34 : Int)).toNat.toUInt8 = (34 : UInt8) by decide]
    by_cases hno : Lib.indexByte (s.data.toList.drop x) 34 = -1
    · have hqn : qLen (s.data.toList.drop 1) = none := by rw [hqx, ix_none hno]; rfl
      refine Ev.step (f := fun _ => some ((⟨#[]⟩ : ByteArray), 0, 41)) (fun k => ?_) ?_
      · simp only [lex_quoted.l0]
        rw [if_pos (by omega), if_pos (by omega), hidx, hno]
        rw [Option.bind_some, if_pos (by omega)]
      · unfold quR qTok
        rw [hqn]
        exact Ev.now _
    · have hge := Lib.indexByte_ge (s.data.toList.drop x) 34
      obtain ⟨i, hi⟩ : ∃ i : Nat, Lib.indexByte (s.data.toList.drop x) 34 = (i : Int) := ⟨_, (Int.toNat_of_nonneg (by omega)).symm⟩
      obtain ⟨pre, rest, h1, h2, h3⟩ := ix_some hi
      have hlen : s.size = x + i + 1 + rest.length := by
        have := congrArg List.length h1
        rw [List.length_drop] at this
        simp at this
        omega
      have hrest : s.data.toList.drop (x + i + 1) = rest := by
        rw [show x + i + 1 = x + (i + 1) by omega, ← List.drop_drop, h1]
        rw [show i + 1 = (pre ++ [34]).length by simp; omega, show pre ++ 34 :: rest = (pre ++ [34]) ++ rest by simp, List.drop_left]
      have hw1 : wrap64 ((i : Int) + 1) = (i : Int) + 1 := w64 (by omega) (by omega)
      have hw2 : wrap64 ((x : Int) + ((i : Int) + 1)) = ((x + i + 1 : Nat) : Int) := by rw [w64 (by omega) (by omega)]; omega
      cases rest with
      | nil =>
        have hqm : qLen (s.data.toList.drop 1) = some (x + i) := by rw [hqx, h3, qLen34_nil, map_one i x hx1]
        have := quoted_j1 s hs h0 hq hqm
        refine Ev.step (f := fun k => lex_quoted.j1 k s ((x + i + 1 : Nat) : Int)) (fun k => ?_) this
        rw [quoted_step s hs k x i (by omega) (by omega) (by rw [hidx, hi]), if_pos (by simp at hlen; omega)]
      | cons e r' =>
        simp only [List.length_cons] at hlen
        obtain ⟨c, hc, hb⟩ := dr_cons (s := s) (i := ((x + i + 1 : Nat) : Int)) (by omega) (by omega)
        have hdr : dr s ((x + i + 1 : Nat) : Int) = e :: r' := by unfold dr; rw [show (((x + i + 1 : Nat) : Int)).toNat = x + i + 1 by omega, hrest]
        rw [hdr] at hc
        injection hc with e1 e2
        subst e1
        by_cases he : (e.toNat : Int) = 34
        · have hqm : qLen (s.data.toList.drop 1) = (qLen (s.data.toList.drop (x + i + 2))).map (· + (x + i + 2 - 1)) := by
            have hd2 : s.data.toList.drop (x + i + 2) = r' := by rw [show x + i + 2 = (x + i + 1) + 1 by omega, ← List.drop_drop, hrest]; rfl
            rw [hqx, h3, hd2, qLen34_two he, map_two _ i x hx1]
          refine Ev.step (f := fun k => lex_quoted.l0 k s ((x + i + 2 : Nat) : Int)) (fun k => ?_) (ih (s.size - (x + i + 2)) (by omega) (x + i + 2) (by omega) (by omega) (Nat.le_refl _) hqm)
          rw [quoted_step s hs k x i (by omega) (by omega) (by rw [hidx, hi]), if_neg (by omega), hb, if_pos he]
        · have hqm : qLen (s.data.toList.drop 1) = some (x + i) := by
            rw [hqx, h3, qLen34_end he, map_one i x hx1]
          have := quoted_j1 s hs h0 hq hqm
          refine Ev.step (f := fun k => lex_quoted.j1 k s ((x + i + 1 : Nat) : Int)) (fun k => ?_) this
          rw [quoted_step s hs k x i (by omega) (by omega) (by rw [hidx, hi]), if_neg (by omega), hb, if_neg he]
theorem quoted_f (s : ByteArray) (hs : s.size ≤ 1024) (h0 : 0 < s.size) (hq : s.data.toList.head? = some 34) : Ev (fun k => lex_quoted.f k s) (quR s.data.toList) :=
  quoted_l0 s hs h0 hq _ 1 (by omega) (by omega) (Nat.le_refl _) (by cases qLen (s.data.toList.drop 1) <;> rfl)
end Go.Proofs.YtceldhkfidmfkaaDoor.L
