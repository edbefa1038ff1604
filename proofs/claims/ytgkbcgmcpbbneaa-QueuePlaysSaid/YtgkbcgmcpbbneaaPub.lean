/- The queue's calls as its users see them: QS: a queue in memory in which L waits and sn is seen; its heap is in order and has all that waits. -/
import Derived.Test.YtgkbcgmcpbbneaaFirst
import Derived.Test.YtgkbcgmcpbbneaaCells
namespace Go.Proofs.Ytgkbcgmcpbbneaa.Q
open Go Go.RowKit Go.Maps Go.Proofs.YtgkbcgmcpbbneaaW.PrintWords
set_option maxRecDepth 100000
set_option linter.unusedVariables false
set_option linter.unusedSimpArgs false
def QS (w : World) (F : Nat → Prop) (qb : Nat) (L : List Wt) (sn : List S46) (m : Nat) : Prop := ∃ mb vs vh hp, QuAt w F qb mb vs vh L sn hp ∧ HeapOK L sn hp ∧ hp.length ≤ m
section
variable {w w' : World} {F F2 : Nat → Prop} {qb m : Nat} {L : List Wt} {sn : List S46}
theorem QS.mono (h : QS w F qb L sn m) (hF : ∀ k, F k → F2 k) : QS w F2 qb L sn m := by obtain ⟨mb, vs, vh, hp, h1, h2, h3⟩ := h; exact ⟨mb, vs, vh, hp, h1.mono hF, h2, h3⟩
theorem QS.move (h : QS w F qb L sn m) (hm : ∀ k, F k → k < w.heap.size → w'.heap[k]? = w.heap[k]?) : QS w' F qb L sn m := by obtain ⟨mb, vs, vh, hp, h1, h2, h3⟩ := h; exact ⟨mb, vs, vh, hp, h1.move hm, h2, h3⟩
theorem QS.below (h : QS w F qb L sn m) (hb : Below w.heap.size w w') : QS w' F qb L sn m := h.move (fun k _ hk => hb.block k hk)
theorem QS.bound (h : QS w F qb L sn m) : QS w (fun k => F k ∧ k < w.heap.size) qb L sn m := by obtain ⟨mb, vs, vh, hp, h1, h2, h3⟩ := h; exact ⟨mb, vs, vh, hp, h1.bound, h2, h3⟩
theorem QS.uniq (h : QS w F qb L sn m) : Uniq L := by obtain ⟨mb, vs, vh, hp, h1, h2, h3⟩ := h; exact h1.map.uniq
theorem QS.wf (h : QS w F qb L sn m) : WfL L := by obtain ⟨mb, vs, vh, hp, h1, h2, h3⟩ := h; exact h1.map.wf
theorem QS.grow (h : QS w F qb L sn m) {m2 : Nat} (hm : m ≤ m2) : QS w F qb L sn m2 := by obtain ⟨mb, vs, vh, hp, h1, h2, h3⟩ := h; exact ⟨mb, vs, vh, hp, h1, h2, by omega⟩
end
theorem look_eq_entry {L L2 : List Wt} {sn : List S46} {c : S30} (h : look L2 c = look L c) : entryOf L2 sn c = entryOf L sn c := by unfold entryOf; rw [h]
theorem HeapOK.put {L : List Wt} {sn : List S46} {hp : List S63} (h : HeapOK L sn hp) {c : S30} (hc : Wc c) (n : Int) : HeapOK (putL L c n) sn (pushH hp (entryOf (putL L c n) sn c)) := by
  refine ⟨pushH_heap h.heap _, fun p hp => ?_, fun x hx => ?_⟩
  · rw [(pushH_perm _ _).mem_iff, List.mem_cons]
    by_cases e : p.1 = c
    · rw [e]; exact .inl rfl
    · refine .inr ?_
      rw [look_eq_entry (look_put_other L n e)]
      have hk : p.1 ∈ (putL L c n).map (·.1) := List.mem_map.2 ⟨p, hp, rfl⟩
      rw [putL_keys] at hk
      have hk2 : p.1 ∈ L.map (·.1) := by
        split at hk
        · exact hk
        · rcases List.mem_append.1 hk with hk | hk
          · exact hk
          · simp at hk; exact absurd hk e
      obtain ⟨q, hq, hqe⟩ := List.mem_map.1 hk2
      have := h.all q hq
      rwa [hqe] at this
  · rw [(pushH_perm _ _).mem_iff, List.mem_cons] at hx
    rcases hx with rfl | hx
    · exact hc
    · exact h.wf x hx
theorem HeapOK.drop {L : List Wt} {sn : List S46} {hp : List S63} (h : HeapOK L sn hp) (c : S30) : HeapOK (dropL L c) sn hp := by
  refine ⟨h.heap, fun p hp => ?_, h.wf⟩
  have hm := List.mem_filter.1 hp
  have hne : p.1 ≠ c := by simpa using hm.2
  rw [look_eq_entry (look_drop_other L hne)]
  exact h.all p hm.1
theorem seeHeap_ok {L : List Wt} {sn : List S46} {done : List S30} (hw : WfL L) (hp : done.Perm (L.map (·.1))) : HeapOK L sn (seeHeap L sn done) := by
  have gen : ∀ (d : List S30) (l : List S63), IsHeap l → IsHeap (d.foldl (fun l c => pushH l (entryOf L sn c)) l) ∧ ∀ y, y ∈ d.foldl (fun l c => pushH l (entryOf L sn c)) l ↔ y ∈ l ∨ ∃ c ∈ d, entryOf L sn c = y := by
    intro d
    induction d with
    | nil => intro l h; exact ⟨h, fun y => by simp⟩
    | cons c d ih =>
      intro l h
      obtain ⟨h1, h2⟩ := ih _ (pushH_heap h (entryOf L sn c))
      refine ⟨h1, fun y => ?_⟩
      rw [List.foldl_cons, h2, (pushH_perm _ _).mem_iff, List.mem_cons]
      constructor
      · rintro ((rfl | h) | ⟨d, hd, e⟩)
        · exact .inr ⟨c, List.mem_cons_self .., rfl⟩
        · exact .inl h
        · exact .inr ⟨d, List.mem_cons_of_mem _ hd, e⟩
      · rintro (h | ⟨d, hd, e⟩)
        · exact .inl (.inr h)
        · rcases List.mem_cons.1 hd with rfl | hd
          · exact .inl (.inl e.symm)
          · exact .inr ⟨d, hd, e⟩
  obtain ⟨h1, h2⟩ := gen done [] IsHeap.nil
  refine ⟨h1, fun p hpl => (h2 _).2 (.inr ⟨p.1, hp.mem_iff.2 (List.mem_map.2 ⟨p, hpl, rfl⟩), rfl⟩), fun x hx => ?_⟩
  rcases (h2 x).1 hx with h | ⟨c, hc, rfl⟩
  · cases h
  · obtain ⟨q, hq, rfl⟩ := List.mem_map.1 (hp.mem_iff.1 hc)
    exact (hw q hq).1
def headC : List S30 → S30 × Bool
  | [] => (z30, false)
  | c :: _ => (c, true)
theorem mem_ents {L : List Wt} {sn : List S46} {x : S63} (h : validE L sn x = true) : x ∈ entsOf L sn := by
  unfold validE at h
  simp only [Bool.and_eq_true, decide_eq_true_eq] at h
  obtain ⟨q, hq, hqe⟩ := List.mem_map.1 (look_isSome.1 h.1)
  exact List.mem_map.2 ⟨q, hq, by rw [hqe]; exact h.2⟩
theorem ents_f2 {L : List Wt} {sn : List S46} {x : S63} (h : x ∈ entsOf L sn) : ∃ p ∈ L, x = entryOf L sn p.1 ∧ x.f2 = p.1 := by
  obtain ⟨q, hq, rfl⟩ := List.mem_map.1 h
  exact ⟨q, hq, rfl, rfl⟩
/-- First's answer is the head of Cells'. -/
theorem first_is {L : List Wt} {sn : List S46} {hp : List S63} (h : HeapOK L sn hp) : firstOf (goodH L sn (hp.length + 1) hp) = headC (cellsOf L sn) := by
  have h1 := goodH_ok (hp.length + 1) hp h
  have hd := goodH_head (L := L) (sn := sn) (hp.length + 1) hp (by omega)
  cases hl : goodH L sn (hp.length + 1) hp with
  | nil =>
    rw [hl] at h1
    have hL : L = [] := by
      cases L with
      | nil => rfl
      | cons p t => have := h1.all p (List.mem_cons_self ..); cases this
    subst hL
    have : cellsOf [] sn = [] := by simp [cellsOf, entsOf, sortS]
    rw [this]
    rfl
  | cons x t =>
    rw [hl] at h1
    have hv := hd x t hl
    have hx := mem_ents hv
    have hmin : ∀ y ∈ entsOf L sn, le63 x y := fun y hy => by
      obtain ⟨p, hp, e, _⟩ := ents_f2 hy
      have hm := h1.all p hp
      rw [← e] at hm
      obtain ⟨k, hk, hke⟩ := List.getElem_of_mem hm
      have := h1.heap.top k hk
      rw [g63_get _ _ hk, hke] at this
      exact this
    have hs := sorted_pw (entsOf L sn)
    have hp := sortS_perm (entsOf L sn)
    cases hss : sortS (entsOf L sn) with
    | nil => rw [hss] at hp; have := hp.mem_iff.2 hx; cases this
    | cons y s =>
      rw [hss] at hs hp
      have hxy : le63 y x := by
        rcases List.mem_cons.1 (hp.mem_iff.2 hx) with e | e
        · rw [e]; exact le63_refl _
        · exact (List.pairwise_cons.1 hs).1 x e
      have hyx : le63 x y := hmin y (hp.mem_iff.1 (List.mem_cons_self ..))
      have : x = y := le63_antisymm hyx hxy
      subst this
      unfold cellsOf
      rw [hss]
      rfl
section
variable {w : World} {F : Nat → Prop} {qb m : Nat} {L : List Wt} {sn : List S46}
theorem own_F {mb : Nat} {vs vh : Value} {hp : List S63} (h : QuAt w F qb mb vs vh L sn hp) (k : Nat) (hk : some k = vh.ownBlock) : F k := h.heap.1 k hk.symm
theorem QS.new (w : World) : Calls Try.prog 16 #[] w fun e w' => ∃ q, e = .returned (.pointer (some ⟨q, 0, none⟩)) ∧ QS w' (fun k => w.heap.size ≤ k) q [] [] 0 ∧ Below w.heap.size w w' :=
  (new_calls w).mono fun e w' ⟨he, hq, hb⟩ => ⟨_, he, ⟨_, _, _, [], hq, ⟨IsHeap.nil, (fun _ h => by cases h), (fun _ h => by cases h)⟩, Nat.le_refl _⟩, hb⟩
theorem QS.put (h : QS w F qb L sn m) (c : S30) (hc : Wc c) (n : Int) (hn : Wf n) (hl : L.length ≤ 1000000) (hm : m ≤ 1000000) (hs : sn.length ≤ 1000000) :
    Calls Try.prog 17 #[.pointer (some ⟨qb, 0, none⟩), .agg #[.int .i64 c.f0, .int .i64 c.f1, .int .i64 c.f2], .int .i64 n] w fun e w' => e = .returned (.tuple #[]) ∧ QS w' (fun k => F k ∨ w.heap.size ≤ k) qb (putL L c n) sn (m + 1) ∧ Kp w w' F := by
  obtain ⟨mb, vs, vh, hp, h1, h2, h3⟩ := h
  refine (put_calls w F qb mb vs vh L sn hp h1 c hc n hn hl (by omega) hs).mono fun e w' ⟨he, vh', hq, hk⟩ => ⟨he, ⟨mb, vs, vh', _, hq, h2.put hc n, by rw [pushH_length]; omega⟩, hk.mono (fun k hk => ?_)⟩
  rcases hk with rfl | rfl | hk
  · exact h1.fm
  · exact h1.fq
  · exact own_F h1 k hk
theorem QS.drop (h : QS w F qb L sn m) (c : S30) (hc : Wc c) :
    Calls Try.prog 13 #[.pointer (some ⟨qb, 0, none⟩), .agg #[.int .i64 c.f0, .int .i64 c.f1, .int .i64 c.f2]] w fun e w' => e = .returned (.bool (look L c).isSome) ∧ QS w' F qb (dropL L c) sn m ∧ Kp w w' F := by
  obtain ⟨mb, vs, vh, hp, h1, h2, h3⟩ := h
  exact (drop_calls w F qb mb vs vh L sn hp h1 c hc).mono fun e w' ⟨he, hq, hk⟩ => ⟨he, ⟨mb, vs, vh, _, hq, h2.drop c, h3⟩, hk.mono (fun k hk => by rw [hk]; exact h1.fm)⟩
theorem QS.see (h : QS w F qb L sn m) (A : Option Addr) (n c : Nat) (xs : List S46) (hC : Kd.C k46 w A n xs) (hn : n ≤ 1000000) (hL : L.length ≤ 1000000) :
    Calls Try.prog 20 #[.pointer (some ⟨qb, 0, none⟩), .slice A n c] w fun e w' => e = .returned (.tuple #[]) ∧ QS w' (fun k => F k ∨ w.heap.size ≤ k) qb L xs L.length ∧ Kp w w' F := by
  obtain ⟨mb, vs, vh, hp, h1, h2, h3⟩ := h
  refine (see_calls w F qb mb vs vh L sn hp h1 A n c xs hC hn hL).mono fun e w' ⟨he, vs', vh', done, hd, hq, hk⟩ => ⟨he, ⟨mb, vs', vh', _, hq.mono (fun k hk => ?_), seeHeap_ok h1.map.wf hd, ?_⟩, hk.mono (fun k hk => by rw [hk]; exact h1.fq)⟩
  · rcases hk with rfl | rfl | hk
    · exact .inl h1.fq
    · exact .inl h1.fm
    · exact .inr hk
  · rw [seeHeap_length, hd.length_eq, List.length_map]; exact Nat.le_refl _
theorem QS.first (h : QS w F qb L sn m) (hm : m ≤ 1000000) (hs : sn.length ≤ 1000000) (c : S30) (b : Bool) (hc : headC (cellsOf L sn) = (c, b)) :
    Calls Try.prog 12 #[.pointer (some ⟨qb, 0, none⟩)] w fun e w' => e = .returned (.tuple #[.agg #[.int .i64 c.f0, .int .i64 c.f1, .int .i64 c.f2], .bool b]) ∧ QS w' F qb L sn m ∧ Kp w w' F := by
  obtain ⟨mb, vs, vh, hp, h1, h2, h3⟩ := h
  refine (first_calls w F qb mb vs vh L sn hp h1 (by omega) hs h2.wf).mono fun e w' ⟨he, vh', hq, hk⟩ => ⟨?_, ⟨mb, vs, vh', _, hq, goodH_ok _ _ h2, ?_⟩, hk.mono (fun k hk => ?_)⟩
  · rw [first_is h2, hc] at he
    exact he
  · have gl : ∀ (f : Nat) (l : List S63), (goodH L sn f l).length ≤ l.length := by
      intro f
      induction f with
      | zero => intro l; exact Nat.le_refl _
      | succ f ih =>
        intro l
        cases l with
        | nil => exact Nat.le_refl _
        | cons x t =>
          unfold goodH
          split
          · exact Nat.le_refl _
          · refine Nat.le_trans (ih _) ?_
            rw [(popH_perm x t).length_eq]; simp
    exact Nat.le_trans (gl _ _) h3
  · rcases hk with rfl | hk
    · exact h1.fq
    · exact own_F h1 k hk
theorem QS.len (h : QS w F qb L sn m) : Calls Try.prog 14 #[.pointer (some ⟨qb, 0, none⟩)] w fun e w' => e = .returned (.int .i64 (L.length : Int)) ∧ w = w' := by
  obtain ⟨mb, vs, vh, hp, h1, h2, h3⟩ := h
  exact len_calls w F qb mb vs vh L sn hp h1
theorem QS.level (h : QS w F qb L sn m) (c : S30) (hc : Wc c) :
    Calls Try.prog 23 #[.pointer (some ⟨qb, 0, none⟩), .agg #[.int .i64 c.f0, .int .i64 c.f1, .int .i64 c.f2]] w fun e w' => e = .returned (.tuple #[.int .i64 ((look L c).getD 0), .bool (look L c).isSome]) ∧ Below w.heap.size w w' := by
  obtain ⟨mb, vs, vh, hp, h1, h2, h3⟩ := h
  exact level_calls w F qb mb vs vh L sn hp h1 c hc
theorem QS.cells (h : QS w F qb L sn m) (hl : L.length ≤ 1000000) (hs : sn.length ≤ 1000000) : Calls Try.prog 11 #[.pointer (some ⟨qb, 0, none⟩)] w (CellsPost w L sn) := by
  obtain ⟨mb, vs, vh, hp, h1, h2, h3⟩ := h
  exact cells_calls w F qb mb vs vh L sn hp h1 hl hs
end
end Go.Proofs.Ytgkbcgmcpbbneaa.Q
