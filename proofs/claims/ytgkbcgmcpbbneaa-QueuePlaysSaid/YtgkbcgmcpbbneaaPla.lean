/- What a script of steps leaves (plain), and what much says. -/
import Derived.Test.YtgkbcgmcpbbneaaPub
namespace Go.Proofs.Ytgkbcgmcpbbneaa.Q
open Go Go.RowKit Go.Maps Go.Proofs.YtgkbcgmcpbbneaaW.PrintWords
set_option maxRecDepth 100000
set_option linter.unusedVariables false
set_option linter.unusedSimpArgs false
def stepP (p : List Wt × List S46) (a : S43) : List Wt × List S46 := if a.f0 = 1 then (putL p.1 a.f1 a.f2, p.2) else if a.f0 = 2 then (dropL p.1 a.f1, p.2) else if a.f0 = 3 then (p.1, a.f3) else p
def runP (xs : List S43) : List Wt × List S46 := xs.foldl stepP ([], [])
theorem runP_take (xs : List S43) (i : Nat) (hi : i < xs.length) : runP (xs.take (i + 1)) = stepP (runP (xs.take i)) xs[i] := by
  unfold runP
  rw [List.take_add_one, List.getElem?_eq_getElem hi, List.foldl_append]
  rfl
def WfA (a : S43) : Prop := Wf a.f0 ∧ Wc a.f1 ∧ Wf a.f2
def Few (xs : List S43) : Prop := xs.length ≤ 400 ∧ ∀ a ∈ xs, a.f3.length ≤ 400
def Big : Nat := 140737488351232
def NotHuge (xs : List S43) : Prop := xs.length ≤ Big ∧ ∀ a ∈ xs, a.f3.length ≤ Big
theorem stepP_uniq {p : List Wt × List S46} (h : Uniq p.1) (a : S43) : Uniq (stepP p a).1 := by
  unfold stepP
  split
  · exact putL_uniq h _ _
  · split
    · exact dropL_uniq h _
    · split <;> exact h
theorem dropL_le (L : List Wt) (c : S30) : (dropL L c).length ≤ L.length := List.length_filter_le _ _
theorem stepP_len (p : List Wt × List S46) (a : S43) : (stepP p a).1.length ≤ p.1.length + 1 := by
  unfold stepP
  split
  · show (putL _ _ _).length ≤ _
    rw [putL_length]; split <;> omega
  · split
    · exact Nat.le_succ_of_le (dropL_le _ _)
    · split <;> exact Nat.le_succ _
theorem stepP_seen {p : List Wt × List S46} {a : S43} {m : Nat} (h : p.2.length ≤ m) (ha : a.f3.length ≤ m) : (stepP p a).2.length ≤ m := by
  unfold stepP
  split
  · exact h
  · split
    · exact h
    · split
      · exact ha
      · exact h
theorem foldP_len : ∀ (xs : List S43) (p : List Wt × List S46), (xs.foldl stepP p).1.length ≤ p.1.length + xs.length
  | [], _ => Nat.le_refl _
  | a :: xs, p => by
    have := foldP_len xs (stepP p a)
    have := stepP_len p a
    rw [List.foldl_cons, List.length_cons]; omega
theorem runP_len (xs : List S43) : (runP xs).1.length ≤ xs.length := by have := foldP_len xs ([], []); simpa [runP] using this
theorem foldP_seen : ∀ (xs : List S43) (p : List Wt × List S46) (m : Nat), p.2.length ≤ m → (∀ a ∈ xs, a.f3.length ≤ m) → (xs.foldl stepP p).2.length ≤ m
  | [], _, _, h, _ => h
  | a :: xs, p, m, h, ha => by
    rw [List.foldl_cons]
    exact foldP_seen xs _ m (stepP_seen h (ha a (List.mem_cons_self ..))) (fun b hb => ha b (List.mem_cons_of_mem _ hb))
theorem runP_seen {xs : List S43} (h : Few xs) : (runP xs).2.length ≤ 400 := foldP_seen xs _ 400 (by simp) h.2
theorem Few.take {xs : List S43} (h : Few xs) (i : Nat) : Few (xs.take i) := ⟨by rw [List.length_take]; have := h.1; omega, fun a ha => h.2 a (List.mem_of_mem_take ha)⟩
theorem rd43 (xs : List S43) (i : Nat) (hi : i < xs.length) : rd_T43 xs (i : Int) = xs[i] := by
  unfold rd_T43
  rw [Int.toNat_natCast, List.getD_eq_getElem?_getD, List.getElem?_eq_getElem hi]; rfl
theorem w64 {x : Int} (h0 : -9223372036854775808 ≤ x) (h1 : x < 9223372036854775808) : wrap64 x = x := by
  unfold wrap64; omega
theorem much_l0 (xs : List S43) (h : NotHuge xs) : ∀ (d i : Nat) (n : Int), i + d = xs.length → 0 ≤ n → n ≤ 400 + Big → ∃ k b, whittlelaw14_much.l0 k xs n (i : Int) = some b ∧ (b = false → n ≤ 400 ∧ ∀ a ∈ xs.drop i, a.f3.length ≤ 400)
  | 0, i, n, hi, h0, h1 => by
    refine ⟨1, _, by simp only [whittlelaw14_much.l0]; rw [if_neg (by omega)], fun hb => ?_⟩
    have hn := of_decide_eq_false hb
    refine ⟨by omega, fun a ha => ?_⟩
    rw [List.drop_eq_nil_iff.mpr (by omega)] at ha
    cases ha
  | d + 1, i, n, hi, h0, h1 => by
    have hil : i < xs.length := by omega
    by_cases hn : n ≤ 400
    · have hbig : (Big : Int) = 140737488351232 := rfl
      have hB := h.2 _ (List.getElem_mem hil)
      have hBx := h.1
      have hB2 : Big = 140737488351232 := rfl
      have e1 : wrap64 (n + ((xs[i].f3).length : Int)) = n + ((xs[i].f3).length : Int) := w64 (by omega) (by omega)
      have e2 : wrap64 ((i : Int) + 1) = ((i + 1 : Nat) : Int) := by rw [w64 (by omega) (by omega)]; rfl
      obtain ⟨k, b, hk, hb⟩ := much_l0 xs h d (i + 1) (n + ((xs[i].f3).length : Int)) (by omega) (by omega) (by omega)
      refine ⟨k + 1, b, ?_, fun hf => ?_⟩
      · simp only [whittlelaw14_much.l0]
        rw [if_pos (by omega), if_pos hn, if_pos (by omega), rd43 _ _ hil, e1, e2]
        exact hk
      · obtain ⟨g1, g2⟩ := hb hf
        refine ⟨hn, fun a ha => ?_⟩
        rw [List.drop_eq_getElem_cons hil] at ha
        rcases List.mem_cons.1 ha with rfl | ha
        · omega
        · exact g2 a ha
    · refine ⟨1, _, by simp only [whittlelaw14_much.l0]; rw [if_pos (by omega), if_neg hn], fun hb => ?_⟩
      have := of_decide_eq_false hb
      omega
theorem much_ok (xs : List S43) (h : NotHuge xs) : ∃ k b, whittlelaw14_much.f k xs = some b ∧ (b = false → Few xs) := by
  obtain ⟨k, b, h1, h2⟩ := much_l0 xs h xs.length 0 (xs.length : Int) (by omega) (by omega) (by have := h.1; omega)
  exact ⟨k, b, h1, fun hb => ⟨by have := (h2 hb).1; omega, fun a ha => (h2 hb).2 a (by simpa using ha)⟩⟩
/-- Two waits. -/
theorem cells_two : cellsOf (putL (putL [] ⟨0, 1, 0⟩ 2) ⟨0, 2, 0⟩ 1) [] = [⟨0, 2, 0⟩, ⟨0, 1, 0⟩] := by
  have e : entsOf (putL (putL [] ⟨0, 1, 0⟩ 2) ⟨0, 2, 0⟩ 1) [] = [⟨1, 2, ⟨0, 1, 0⟩⟩, ⟨1, 1, ⟨0, 2, 0⟩⟩] := by decide
  have s : sortS [⟨1, 2, ⟨0, 1, 0⟩⟩, ⟨1, 1, ⟨0, 2, 0⟩⟩] = [⟨1, 1, ⟨0, 2, 0⟩⟩, ⟨1, 2, ⟨0, 1, 0⟩⟩] := by
    refine eq_of_sorted _ _ (sorted_pw _) ?_ ((sortS_perm _).trans (List.Perm.swap ..))
    simp [le63, ltE]
  unfold cellsOf
  rw [e, s]
  rfl
theorem putL_len_le (L : List Wt) (c : S30) (n : Int) : (putL L c n).length ≤ L.length + 1 := by rw [putL_length]; split <;> omega
section
variable {w w' : World} {F : Nat → Prop} {N qb m : Nat} {L : List Wt} {sn : List S46}
theorem QS.drew (h : QS w F qb L sn m) : QS w.drew F qb L sn m := h.move (fun _ _ _ => rfl)
/-- A queue all of whose blocks are new since N. -/
theorem Fq.put (h : QS w (fun k => N ≤ k) qb L sn m) (hN : N ≤ w.heap.size) (c : S30) (hc : Wc c) (n : Int) (hn : Wf n) (hl : L.length ≤ 1000000) (hm : m ≤ 1000000) (hs : sn.length ≤ 1000000) :
    Calls Try.prog 17 #[.pointer (some ⟨qb, 0, none⟩), .agg #[.int .i64 c.f0, .int .i64 c.f1, .int .i64 c.f2], .int .i64 n] w fun e w' => e = .returned (.tuple #[]) ∧ QS w' (fun k => N ≤ k) qb (putL L c n) sn (m + 1) ∧ Below N w w' :=
  (h.put c hc n hn hl hm hs).mono fun e w' ⟨he, hq, hk⟩ => ⟨he, hq.mono (fun k hk => hk.elim id (Nat.le_trans hN)), hk.below hN (fun k hk => hk)⟩
theorem Fq.drop (h : QS w (fun k => N ≤ k) qb L sn m) (hN : N ≤ w.heap.size) (c : S30) (hc : Wc c) :
    Calls Try.prog 13 #[.pointer (some ⟨qb, 0, none⟩), .agg #[.int .i64 c.f0, .int .i64 c.f1, .int .i64 c.f2]] w fun e w' => e = .returned (.bool (look L c).isSome) ∧ QS w' (fun k => N ≤ k) qb (dropL L c) sn m ∧ Below N w w' :=
  (h.drop c hc).mono fun e w' ⟨he, hq, hk⟩ => ⟨he, hq, hk.below hN (fun k hk => hk)⟩
theorem Fq.see (h : QS w (fun k => N ≤ k) qb L sn m) (hN : N ≤ w.heap.size) (A : Option Addr) (n c : Nat) (xs : List S46) (hC : Kd.C k46 w A n xs) (hn : n ≤ 1000000) (hL : L.length ≤ 1000000) :
    Calls Try.prog 20 #[.pointer (some ⟨qb, 0, none⟩), .slice A n c] w fun e w' => e = .returned (.tuple #[]) ∧ QS w' (fun k => N ≤ k) qb L xs L.length ∧ Below N w w' :=
  (h.see A n c xs hC hn hL).mono fun e w' ⟨he, hq, hk⟩ => ⟨he, hq.mono (fun k hk => hk.elim id (Nat.le_trans hN)), hk.below hN (fun k hk => hk)⟩
theorem Fq.first (h : QS w (fun k => N ≤ k) qb L sn m) (hN : N ≤ w.heap.size) (hm : m ≤ 1000000) (hs : sn.length ≤ 1000000) (c : S30) (b : Bool) (hc : headC (cellsOf L sn) = (c, b)) :
    Calls Try.prog 12 #[.pointer (some ⟨qb, 0, none⟩)] w fun e w' => e = .returned (.tuple #[.agg #[.int .i64 c.f0, .int .i64 c.f1, .int .i64 c.f2], .bool b]) ∧ QS w' (fun k => N ≤ k) qb L sn m ∧ Below N w w' :=
  (h.first hm hs c b hc).mono fun e w' ⟨he, hq, hk⟩ => ⟨he, hq, hk.below hN (fun k hk => hk)⟩
end
theorem wf_lit {n : Int} (h0 : -9223372036854775808 ≤ n) (h1 : n < 9223372036854775808) : Wf n := by
  unfold Wf
  have e0 : IntKind.min .i64 = -9223372036854775808 := by decide
  have e1 : IntKind.max .i64 = 9223372036854775807 := by decide
  simp only [Lit.wf, e0, e1, Bool.and_eq_true, decide_eq_true_eq]
  omega
end Go.Proofs.Ytgkbcgmcpbbneaa.Q
