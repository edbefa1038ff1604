/- cells and seen answer as they should (plain); Level of a cell that waits; rows kept in bounds. -/
import Derived.Test.YtgkbcgmcpbbneaaPlb
namespace Go.Proofs.Ytgkbcgmcpbbneaa.Q
open Go Go.RowKit Go.Maps Go.Proofs.YtgkbcgmcpbbneaaW.PrintWords
set_option maxRecDepth 100000
set_option linter.unusedVariables false
set_option linter.unusedSimpArgs false
theorem cells_l0 (l : List S30) (hl : l.length ≤ Big) : ∀ (d i : Nat), i + d = l.length → ∃ k, whittlelaw14_cells.l0 k l l (i : Int) = some true
  | 0, i, hi => ⟨1, by simp only [whittlelaw14_cells.l0]; rw [if_neg (by omega)]⟩
  | d + 1, i, hi => by
    obtain ⟨k, hk⟩ := cells_l0 l hl d (i + 1) (by omega)
    have hB : Big = 140737488351232 := rfl
    have e : wrap64 ((i : Int) + 1) = ((i + 1 : Nat) : Int) := by rw [w64 (by omega) (by omega)]; rfl
    refine ⟨k + 1, ?_⟩
    simp only [whittlelaw14_cells.l0]
    rw [if_pos (by omega), if_pos (by omega), if_pos (by omega), if_neg (by simp), e]
    exact hk
theorem cells_same (l : List S30) (hl : l.length ≤ Big) : ∃ k, whittlelaw14_cells.f k l l = some true := by
  obtain ⟨k, hk⟩ := cells_l0 l hl l.length 0 (by omega)
  refine ⟨k, ?_⟩
  unfold whittlelaw14_cells.f
  rw [if_pos rfl]
  exact hk
theorem wf_wrap (n : Int) : Wf (wrap64 n) := wf_lit (by unfold wrap64; omega) (by unfold wrap64; omega)
section
variable {w w' : World} {F : Nat → Prop} {N qb m : Nat} {L : List Wt} {sn : List S46}
theorem QS.level_n (h : QS w F qb L sn m) (c : S30) (hc : Wc c) (n : Int) (hn : look L c = some n) :
    Calls Try.prog 23 #[.pointer (some ⟨qb, 0, none⟩), .agg #[.int .i64 c.f0, .int .i64 c.f1, .int .i64 c.f2]] w fun e w' => e = .returned (.tuple #[.int .i64 n, .bool true]) ∧ Below w.heap.size w w' := by
  have := h.level c hc
  rwa [hn] at this
theorem R30_bound {v : Value} {xs : List S30} {ok : Nat → Prop} (h : Kd.R k30 30 w 0 ok v xs) : Kd.R k30 30 w 0 (fun k => ok k ∧ k < w.heap.size) v xs := Kd.R_mono (Kd.R_bound h) (fun k hk => ⟨hk.1, hk.2.2.1⟩)
theorem Kp.qs (h : Kp w w' F) {F2 : Nat → Prop} (hq : QS w F2 qb L sn m) (hd : ∀ k, F2 k → ¬ F k) : QS w' F2 qb L sn m := hq.move (fun k hk hl => h.block k hl (hd k hk))
end
theorem look_level {L : List Wt} (hw : WfL L) {sn : List S46} {c : S30} (h : c ∈ cellsOf L sn) : ∃ n, look L c = some n ∧ Wf n := by
  have := cellsOf_mem h
  cases hl : look L c with
  | none => rw [hl] at this; cases this
  | some n => exact ⟨n, rfl, (hw _ (look_some hl)).2⟩
/-- The queue put anew, from the last cell on: what waits of l from the i-th on. -/
def Rest (Lp Lq : List Wt) (l : List S30) (i : Nat) : Prop := ∀ c, look Lp c = if c ∈ l.drop i then look Lq c else none
theorem Rest.step {Lp Lq : List Wt} {l : List S30} {i : Nat} {x : S30} {n n2 : Int} (h : Rest Lp Lq l (i + 1)) (hd : l.drop i = x :: l.drop (i + 1)) (hn : look Lq x = some n) : Rest (putL (putL Lp x n2) x n) Lq l i := by
  intro c
  rw [hd]
  by_cases hc : c = x
  · subst hc
    rw [look_put_same, if_pos (List.mem_cons_self ..), hn]
  · rw [look_put_other _ _ hc, look_put_other _ _ hc, h c]
    have : (c ∈ x :: l.drop (i + 1)) ↔ c ∈ l.drop (i + 1) := by rw [List.mem_cons]; exact or_iff_right hc
    simp only [this]
theorem Rest.full {Lp Lq : List Wt} {sn : List S46} (hp : Uniq Lp) (hq : Uniq Lq) (h : Rest Lp Lq (cellsOf Lq sn) 0) : cellsOf Lp sn = cellsOf Lq sn := by
  refine cellsOf_ext hp hq (fun c => ?_) sn
  rw [h c]
  split
  · rfl
  · rename_i hc
    cases hl : look Lq c with
    | none => rfl
    | some n => exact absurd ((cellsOf_perm Lq sn).mem_iff.2 (look_isSome.1 (by rw [hl]; rfl))) (by simpa using hc)
theorem Rest.start (Lq : List Wt) (l : List S30) : Rest [] Lq l l.length := by
  intro c
  rw [List.drop_length, if_neg (by simp)]
  rfl
/-- Two neighbours in the order. -/
theorem cells_rise {L : List Wt} {sn : List S46} (hu : Uniq L) {i : Nat} (hi : i + 1 < (cellsOf L sn).length) : ltE (entryOf L sn (cellsOf L sn)[i]) (entryOf L sn (cellsOf L sn)[i + 1]) = true := by
  have hs := sorted_pw (entsOf L sn)
  have hp := sortS_perm (entsOf L sn)
  have hll : (cellsOf L sn).length = (sortS (entsOf L sn)).length := by unfold cellsOf; rw [List.length_map]
  have hent : ∀ j (hj : j < (sortS (entsOf L sn)).length), (sortS (entsOf L sn))[j] = entryOf L sn ((cellsOf L sn)[j]'(by omega)) := by
    intro j hj
    obtain ⟨p, hpl, e, e2⟩ := ents_f2 (hp.mem_iff.1 (List.getElem_mem hj))
    have : (cellsOf L sn)[j]'(by omega) = ((sortS (entsOf L sn))[j]).f2 := by unfold cellsOf; rw [List.getElem_map]
    rw [this, e2]; exact e
  have hle := List.pairwise_iff_getElem.1 hs i (i + 1) (by omega) (by omega) (by omega)
  rw [hent i (by omega), hent (i + 1) (by omega)] at hle
  have hnd := cellsOf_nodup hu sn
  have hne : (cellsOf L sn)[i] ≠ (cellsOf L sn)[i + 1] := List.pairwise_iff_getElem.1 hnd i (i + 1) (by omega) (by omega) (by omega)
  cases hlt : ltE (entryOf L sn (cellsOf L sn)[i]) (entryOf L sn (cellsOf L sn)[i + 1]) with
  | true => rfl
  | false => exact absurd (congrArg S63.f2 (ltE_tri hlt hle)) hne
end Go.Proofs.Ytgkbcgmcpbbneaa.Q
