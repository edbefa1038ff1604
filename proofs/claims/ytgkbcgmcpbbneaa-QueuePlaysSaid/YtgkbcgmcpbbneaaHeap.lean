/- The heap as lists: push and pop keep what is in it and its order; First's passing over. No program in sight. -/
import Derived.Test.YtgkbcgmcpbbneaaOf2
import Derived.Test.YtgkbcgmcpbbneaaPop
namespace Go.Proofs.Ytgkbcgmcpbbneaa.Q
open Go Go.RowKit
set_option linter.unusedVariables false
set_option linter.unusedSimpArgs false
/-- a stands not behind b. -/
def le63 (a b : S63) : Prop := ltE b a = false
theorem le63_refl (a : S63) : le63 a a := ltE_irr a
theorem le63_of_lt {a b : S63} (h : ltE a b = true) : le63 a b := ltE_asymm h
theorem le63_trans {a b c : S63} (h : le63 a b) (k : le63 b c) : le63 a c := by
  unfold le63 at *
  cases hc : ltE c a with
  | false => rfl
  | true =>
    cases hb : ltE b a with
    | true => rw [hb] at h; cases h
    | false =>
      cases hab : ltE a b with
      | true => have := ltE_trans hc hab; rw [this] at k; cases k
      | false => have := ltE_tri hab hb; subst this; rw [hc] at k; cases k
theorem le63_antisymm {a b : S63} (h : le63 a b) (k : le63 b a) : a = b := ltE_tri k h
theorem le63_total {a b : S63} (h : ¬ le63 a b) : ltE b a = true := by
  unfold le63 at h
  cases hb : ltE b a with
  | true => rfl
  | false => exact absurd hb h
theorem swp_perm (l : List S63) (i j : Nat) (hi : i < l.length) (hj : j < l.length) : (swp l i j).Perm l := by
  unfold swp
  rw [g63_get l i hi, g63_get l j hj]
  exact List.set_set_perm hi hj
theorem g63_swp (l : List S63) (i j k : Nat) (hi : i < l.length) (hj : j < l.length) : g63 (swp l i j) k = if k = j then g63 l i else if k = i then g63 l j else g63 l k := by
  unfold swp g63
  simp only [List.getD_eq_getElem?_getD, List.getElem?_set, List.length_set]
  by_cases h1 : k = j
  · subst h1; simp [hj]
  · rw [if_neg (fun e => h1 e.symm), if_neg h1]
    by_cases h2 : k = i
    · subst h2; simp [hi]
    · rw [if_neg (fun e => h2 e.symm), if_neg h2]
theorem upH_perm : ∀ (f : Nat) (l : List S63) (i : Nat), i < l.length → (upH f l i).Perm l
  | 0, l, i, _ => List.Perm.refl _
  | f + 1, l, i, h => by
    unfold upH
    split
    · exact List.Perm.refl _
    · split
      · exact List.Perm.refl _
      · exact (upH_perm f _ _ (by rw [swp_length]; omega)).trans (swp_perm l _ _ (by omega) h)
theorem pushH_perm (l : List S63) (x : S63) : (pushH l x).Perm (x :: l) := by
  unfold pushH
  exact (upH_perm _ _ _ (by simp)).trans (List.perm_append_comm.trans (by simp))
theorem pushH_length (l : List S63) (x : S63) : (pushH l x).length = l.length + 1 := by rw [(pushH_perm l x).length_eq]; rfl
theorem downH_perm : ∀ (f : Nat) (l : List S63) (i : Nat), (downH f l i).Perm l
  | 0, l, i => List.Perm.refl _
  | f + 1, l, i => by
    unfold downH
    split
    · exact List.Perm.refl _
    · rename_i hne
      rcases least2_bound l i with h | ⟨h1, h2⟩
      · exact absurd h hne
      · exact (downH_perm f _ _).trans (swp_perm l _ _ h2 (by omega))
theorem popH_perm (x : S63) (l : List S63) : (popH (x :: l)).Perm l := by
  unfold popH
  refine (downH_perm _ _ _).trans ?_
  cases hl : l with
  | nil => simp
  | cons y t =>
    have hn : (x :: y :: t).length - 1 = t.length + 1 := by simp
    rw [hn]
    rw [List.set_cons_zero, List.take_succ_cons]
    have h1 : g63 (x :: y :: t) (t.length + 1) = (y :: t).getLast (by simp) := by
      rw [g63_get _ _ (by simp), List.getElem_cons_succ, List.getLast_eq_getElem]
      congr 1
    rw [h1]
    have h2 : (y :: t).take t.length = (y :: t).dropLast := by rw [List.dropLast_eq_take]; simp
    rw [h2]
    have h3 := List.dropLast_concat_getLast (l := y :: t) (by simp)
    have h4 : ((y :: t).getLast (by simp) :: (y :: t).dropLast).Perm ((y :: t).dropLast ++ [(y :: t).getLast (by simp)]) := (List.perm_append_comm (l₁ := [(y :: t).getLast (by simp)])).trans (by simp)
    rw [h3] at h4
    exact h4
theorem popH_length (l : List S63) (h : 0 < l.length) : (popH l).length = l.length - 1 := by
  cases l with
  | nil => cases h
  | cons x t => rw [(popH_perm x t).length_eq]; simp
theorem popH_mem {l : List S63} {y : S63} (h : 0 < l.length) (hy : y ∈ popH l) : y ∈ l := by
  cases l with
  | nil => cases h
  | cons x t => exact List.mem_cons_of_mem _ ((popH_perm x t).mem_iff.1 hy)

/-! ### the order -/
def IsHeap (l : List S63) : Prop := ∀ j, 0 < j → j < l.length → le63 (g63 l ((j - 1) / 2)) (g63 l j)
theorem IsHeap.nil : IsHeap [] := fun j _ h => by cases h
theorem IsHeap.top {l : List S63} (h : IsHeap l) : ∀ (k : Nat), k < l.length → le63 (g63 l 0) (g63 l k) := by
  intro k
  induction k using Nat.strongRecOn with
  | ind k ih =>
    intro hk
    by_cases h0 : k = 0
    · subst h0; exact le63_refl _
    · exact le63_trans (ih ((k - 1) / 2) (by omega) (by omega)) (h k (by omega) hk)
def UpOK (l : List S63) (i : Nat) : Prop := (∀ j, 0 < j → j < l.length → j ≠ i → le63 (g63 l ((j - 1) / 2)) (g63 l j)) ∧ (∀ j, 0 < j → j < l.length → (j - 1) / 2 = i → 0 < i → le63 (g63 l ((i - 1) / 2)) (g63 l j))
theorem upH_heap : ∀ (f : Nat) (l : List S63) (i : Nat), i < f → i < l.length → UpOK l i → IsHeap (upH f l i)
  | 0, _, _, h, _, _ => by omega
  | f + 1, l, i, hf, hi, h => by
    unfold upH
    split
    · rename_i h0
      subst h0
      exact fun j h1 h2 => h.1 j h1 h2 (by omega)
    · rename_i h0
      split
      · rename_i hle
        have hle' : le63 (g63 l ((i - 1) / 2)) (g63 l i) := ordE_le.1 hle
        intro j h1 h2
        by_cases e : j = i
        · subst e; exact hle'
        · exact h.1 j h1 h2 e
      · rename_i hgt
        have hlt : ltE (g63 l i) (g63 l ((i - 1) / 2)) = true := le63_total (fun e => hgt (ordE_le.2 e))
        have hba : le63 (g63 l i) (g63 l ((i - 1) / 2)) := le63_of_lt hlt
        have hu : (i - 1) / 2 < l.length := by omega
        have hg := fun k => g63_swp l ((i - 1) / 2) i k hu hi
        refine upH_heap f _ _ (by omega) (by rw [swp_length]; omega) ⟨fun j h1 h2 hj => ?_, fun j h1 h2 hj h3 => ?_⟩
        · rw [swp_length] at h2
          rw [hg, hg]
          by_cases e : j = i
          · subst e
            rw [if_neg (by omega), if_pos rfl, if_pos rfl]
            exact hba
          · rw [if_neg e, if_neg hj]
            by_cases e2 : (j - 1) / 2 = i
            · rw [if_pos e2]
              exact h.2 j h1 h2 e2 (by omega)
            · rw [if_neg e2]
              by_cases e3 : (j - 1) / 2 = (i - 1) / 2
              · rw [if_pos e3]
                have := h.1 j h1 h2 e
                rw [e3] at this
                exact le63_trans hba this
              · rw [if_neg e3]
                exact h.1 j h1 h2 e
        · rw [swp_length] at h2
          rw [hg, hg, if_neg (by omega), if_neg (by omega)]
          have hpu := h.1 ((i - 1) / 2) h3 hu (by omega)
          by_cases e : j = i
          · rw [if_pos e]
            exact hpu
          · rw [if_neg e, if_neg (by omega)]
            have := h.1 j h1 h2 e
            rw [hj] at this
            exact le63_trans hpu this
theorem g63_append_left {l : List S63} {x : S63} {j : Nat} (h : j < l.length) : g63 (l ++ [x]) j = g63 l j := by
  rw [g63_get _ _ (by simp; omega), g63_get _ _ h, List.getElem_append_left h]
theorem pushH_heap {l : List S63} (h : IsHeap l) (x : S63) : IsHeap (pushH l x) := by
  unfold pushH
  refine upH_heap _ _ _ (by omega) (by simp) ⟨fun j h1 h2 hj => ?_, fun j h1 h2 hj h3 => ?_⟩
  · simp at h2
    rw [g63_append_left (by omega), g63_append_left (by omega)]
    exact h j h1 (by omega)
  · simp at h2
    omega
def DownOK (l : List S63) (i : Nat) : Prop := (∀ j, 0 < j → j < l.length → (j - 1) / 2 ≠ i → le63 (g63 l ((j - 1) / 2)) (g63 l j)) ∧ (0 < i → ∀ j, 0 < j → j < l.length → (j - 1) / 2 = i → le63 (g63 l ((i - 1) / 2)) (g63 l j))
theorem least_spec (l : List S63) (i : Nat) : (∀ c, c < l.length → (c = 2 * i + 1 ∨ c = 2 * i + 2) → le63 (g63 l (least2 l i)) (g63 l c)) ∧ le63 (g63 l (least2 l i)) (g63 l i) := by
  have h1 : le63 (g63 l (least1 l i)) (g63 l i) ∧ (2 * i + 1 < l.length → le63 (g63 l (least1 l i)) (g63 l (2 * i + 1))) := by
    unfold least1
    split
    · rename_i h; exact ⟨le63_of_lt (ordE_neg.1 h.2), fun _ => le63_refl _⟩
    · rename_i h
      refine ⟨le63_refl _, fun hl => ?_⟩
      cases hb : ltE (g63 l (2 * i + 1)) (g63 l i) with
      | false => exact hb
      | true => exact absurd ⟨hl, ordE_neg.2 hb⟩ h
  unfold least2
  split
  · rename_i h
    have hlt := le63_of_lt (ordE_neg.1 h.2)
    refine ⟨fun c hc hcc => ?_, le63_trans hlt h1.1⟩
    rcases hcc with rfl | rfl
    · exact le63_trans hlt (h1.2 hc)
    · exact le63_refl _
  · rename_i h
    refine ⟨fun c hc hcc => ?_, h1.1⟩
    rcases hcc with rfl | rfl
    · exact h1.2 hc
    · cases hb : ltE (g63 l (2 * i + 2)) (g63 l (least1 l i)) with
      | false => exact hb
      | true => exact absurd ⟨hc, ordE_neg.2 hb⟩ h
theorem downH_heap : ∀ (f : Nat) (l : List S63) (i : Nat), l.length - i < f → DownOK l i → IsHeap (downH f l i)
  | 0, _, _, h, _ => by omega
  | f + 1, l, i, hf, h => by
    have hs := least_spec l i
    unfold downH
    split
    · rename_i he
      rw [he] at hs
      intro j h1 h2
      by_cases e : (j - 1) / 2 = i
      · rw [e]
        exact hs.1 j h2 (by omega)
      · exact h.1 j h1 h2 e
    · rename_i hne
      rcases least2_bound l i with hb | ⟨hb1, hb2⟩
      · exact absurd hb hne
      · have hi : i < l.length := by omega
        have hq : least2 l i = 2 * i + 1 ∨ least2 l i = 2 * i + 2 := by
          rcases least2_cases l i with k | ⟨k, _⟩
          · rcases least1_cases l i with k2 | ⟨k2, _⟩
            · exact absurd (k.trans k2) hne
            · exact .inl (k.trans k2)
          · exact .inr k
        obtain ⟨q, hqq⟩ : ∃ q, least2 l i = q := ⟨_, rfl⟩
        rw [hqq] at hs hb1 hb2 hq hne ⊢
        have hg := fun k => g63_swp l q i k hb2 hi
        refine downH_heap f _ _ (by rw [swp_length]; omega) ⟨fun j h1 h2 hj => ?_, fun h3 j h1 h2 hj => ?_⟩
        · rw [swp_length] at h2
          rw [hg, hg]
          by_cases e : (j - 1) / 2 = i
          · rw [if_pos e, if_neg (by omega)]
            by_cases e2 : j = q
            · rw [if_pos e2]; exact hs.2
            · rw [if_neg e2]; exact hs.1 j h2 (by omega)
          · rw [if_neg e, if_neg hj]
            by_cases e2 : j = i
            · rw [if_pos e2]
              have := h.2 (by omega) q (by omega) hb2 (by omega)
              rw [e2]
              exact this
            · rw [if_neg e2, if_neg (by omega)]
              exact h.1 j h1 h2 e
        · rw [swp_length] at h2
          rw [hg, hg, if_pos (by omega), if_neg (by omega), if_neg (by omega)]
          have := h.1 j h1 h2 (by omega)
          rwa [hj] at this
theorem popH_heap {l : List S63} (h : IsHeap l) (hl : 0 < l.length) : IsHeap (popH l) := by
  unfold popH
  have hlen : ((l.set 0 (g63 l (l.length - 1))).take (l.length - 1)).length = l.length - 1 := by simp
  have hg : ∀ k, 0 < k → k < l.length - 1 → g63 ((l.set 0 (g63 l (l.length - 1))).take (l.length - 1)) k = g63 l k := by
    intro k h1 h2
    unfold g63
    simp only [List.getD_eq_getElem?_getD, List.getElem?_take]
    rw [if_pos h2, List.getElem?_set_ne (by omega)]
  refine downH_heap _ _ _ (by rw [hlen]; omega) ⟨fun j h1 h2 hj => ?_, fun h3 => by omega⟩
  rw [hlen] at h2
  rw [hg j h1 h2, hg _ (by omega) (by omega)]
  exact h j h1 (by omega)

/-! ### First -/
def validE (L : List Wt) (sn : List S46) (x : S63) : Bool := (look L x.f2).isSome && decide (entryOf L sn x.f2 = x)
def goodH (L : List Wt) (sn : List S46) : Nat → List S63 → List S63
  | 0, l => l
  | _ + 1, [] => []
  | f + 1, x :: t => if validE L sn x then x :: t else goodH L sn f (popH (x :: t))
theorem goodH_fuel (L : List Wt) (sn : List S46) : ∀ (f f' : Nat) (l : List S63), l.length < f → l.length < f' → goodH L sn f l = goodH L sn f' l
  | 0, _, _, h, _ => by omega
  | _, 0, _, _, h => by omega
  | f + 1, f' + 1, [], _, _ => rfl
  | f + 1, f' + 1, x :: t, h, h' => by
    unfold goodH
    split
    · rfl
    · have := popH_length (x :: t) (by simp)
      simp only [List.length_cons] at h h' this
      exact goodH_fuel L sn f f' _ (by omega) (by omega)
/-- The heap is in order, and has the entry of each cell that waits. -/
structure HeapOK (L : List Wt) (sn : List S46) (l : List S63) : Prop where
  heap : IsHeap l
  all : ∀ p ∈ L, entryOf L sn p.1 ∈ l
  wf : ∀ x ∈ l, Wc x.f2
theorem entryOf_valid {L : List Wt} {sn : List S46} {p : Wt} (h : p ∈ L) : validE L sn (entryOf L sn p.1) = true := by
  unfold validE
  have h1 : (look L p.1).isSome = true := look_isSome.2 (List.mem_map.2 ⟨p, h, rfl⟩)
  simp only [Bool.and_eq_true, decide_eq_true_eq]
  exact ⟨h1, rfl⟩
theorem goodH_ok {L : List Wt} {sn : List S46} : ∀ (f : Nat) (l : List S63), HeapOK L sn l → HeapOK L sn (goodH L sn f l)
  | 0, l, h => h
  | f + 1, [], h => h
  | f + 1, x :: t, h => by
    unfold goodH
    split
    · exact h
    · rename_i hv
      refine goodH_ok f _ ⟨popH_heap h.heap (by simp), fun p hp => ?_, fun y hy => h.wf y (popH_mem (by simp) hy)⟩
      have h1 := h.all p hp
      rcases List.mem_cons.1 h1 with e | e
      · exact absurd (by rw [← e]; exact entryOf_valid hp) hv
      · exact (popH_perm x t).mem_iff.2 e
theorem goodH_head {L : List Wt} {sn : List S46} : ∀ (f : Nat) (l : List S63), l.length < f → ∀ x t, goodH L sn f l = x :: t → validE L sn x = true
  | 0, _, h, _, _, _ => by omega
  | f + 1, [], _, x, t, h => by cases h
  | f + 1, y :: s, hf, x, t, h => by
    unfold goodH at h
    split at h
    · injection h with h1 _; subst h1; assumption
    · have := popH_length (y :: s) (by simp)
      simp only [List.length_cons] at hf this
      exact goodH_head f _ (by omega) x t h
end Go.Proofs.Ytgkbcgmcpbbneaa.Q
