/- The queue in memory: the map's laws as run equations, ranging over it, what a call keeps, and the predicate of a queue. -/
import Derived.Test.YtgkbcgmcpbbneaaMap
namespace Go.Proofs.Ytgkbcgmcpbbneaa.Q
open Go Go.RowKit Go.Maps Go.ChangeMaps Go.MapKept Go.Proofs.YtgkbcgmcpbbneaaW.PrintWords Go.Proofs.YtgkbcgmcpbbneaaW.PrintLast Go.Proofs.YtgkbcgmcpbbneaaW.PrintMore
set_option maxRecDepth 100000
set_option linter.unusedVariables false
set_option linter.unusedSimpArgs false

def MapAt (w : World) (b : Nat) (L : List Wt) : Prop := ∃ D : DataW Unit, w.ownsMap Try.prog 30 (plainElem Try.prog 3) b L.length D ∧ MapOf D L
section
variable {w w' : World} {b : Nat} {L : List Wt}
theorem ownsMap_tight {D : DataW Unit} {n : Nat} (h : w.ownsMap Try.prog 30 (plainElem Try.prog 3) b n D) : w.ownsMap Try.prog 30 (plainElem Try.prog 3) b (Maps.size D) D := by
  obtain ⟨es, clock, hb, F, hs, rfl⟩ := h
  exact ⟨es, clock, hb, F, by simp [Maps.size, length_sorted], rfl⟩
theorem MapAt.obj (h : MapAt w b L) : ∃ es clock, w.heap[b]? = some (.map es clock) := by
  obtain ⟨D, ⟨es, clock, hb, _⟩, _⟩ := h
  exact ⟨es, clock, hb⟩
theorem MapAt.move (h : MapAt w b L) (hm : w'.heap[b]? = w.heap[b]?) : MapAt w' b L := by
  obtain ⟨D, ⟨es, clock, hb, r⟩, h2⟩ := h
  exact ⟨D, ⟨es, clock, hm.trans hb, r⟩, h2⟩
theorem MapAt.lt (h : MapAt w b L) : b < w.heap.size := by
  obtain ⟨es, clock, hb⟩ := h.obj
  exact (Array.getElem?_eq_some_iff.1 hb).1
theorem MapAt.uniq (h : MapAt w b L) : Uniq L := by obtain ⟨D, _, h2⟩ := h; exact h2.uniq
theorem MapAt.wf (h : MapAt w b L) : WfL L := by obtain ⟨D, _, h2⟩ := h; exact h2.wf
theorem MapAt.made (w : World) : MapAt (w.alloc (.map #[] 0)) w.heap.size [] := ⟨.map [], World.ownsMap_made w Try.prog 30 _, MapOf.empty⟩
theorem MapAt.look_ok (h : MapAt w b L) (c : S30) (hc : Wc c) :
    (Instr.lookup 56 (.map (some b)) (.agg #[.int .i64 c.f0, .int .i64 c.f1, .int .i64 c.f2]) true).run Try.prog w = .ok (.tuple #[.int .i64 ((look L c).getD 0), .bool (look L c).isSome]) w := by
  obtain ⟨D, h1, h2⟩ := h
  obtain ⟨v, ps, hrun, hv⟩ := h1.look_ok law30 Try.underlying56 (zero3 w) (plainElem_int Try.underlying3 (by decide)) (key_mk c hc)
  rw [h2.has c hc] at hrun
  obtain ⟨a, rfl, ha, _⟩ := plainElem_int_inv Try.underlying3 hv
  have ha1 : D.atKey (kL c) (.lit (.int .i64 0)) = .lit (.int .i64 a) := congrArg Prod.fst ha
  have : a = (look L c).getD 0 := by
    cases hl : look L c with
    | none =>
      rw [atKey_of_not_has (by rw [h2.has c hc, hl]; rfl)] at ha1
      injection ha1 with e; injection e with _ e; exact e.symm
    | some n =>
      rw [h2.at_ c n hl] at ha1
      injection ha1 with e; injection e with _ e; exact e.symm
  subst this
  exact hrun
theorem MapAt.look1 (h : MapAt w b L) (c : S30) (hc : Wc c) :
    (Instr.lookup 56 (.map (some b)) (.agg #[.int .i64 c.f0, .int .i64 c.f1, .int .i64 c.f2]) false).run Try.prog w = .ok (.int .i64 ((look L c).getD 0)) w := by
  obtain ⟨D, h1, h2⟩ := h
  obtain ⟨a, hrun, ha1, _⟩ := h1.lookup_int law30 Try.underlying56 Try.underlying3 (zero3 w) (key_mk c hc)
  have : a = (look L c).getD 0 := by
    cases hl : look L c with
    | none =>
      rw [atKey_of_not_has (by rw [h2.has c hc, hl]; rfl)] at ha1
      injection ha1 with e; injection e with _ e; exact e.symm
    | some n =>
      rw [h2.at_ c n hl] at ha1
      injection ha1 with e; injection e with _ e; exact e.symm
  subst this
  exact hrun
theorem MapAt.len (h : MapAt w b L) (ty : TypeId) : (Builtin.len_ #[56] ty #[.map (some b)]).run Try.prog w = .ok (.int .i64 (L.length : Int)) w := by
  obtain ⟨D, h1, h2⟩ := h
  have := h1.len Try.underlying56 ty
  rw [h2.size] at this
  exact this
theorem MapAt.drop (h : MapAt w b L) (c : S30) (hc : Wc c) (ty : TypeId) :
    ∃ w', (Builtin.delete_ #[56, 30] ty #[.map (some b), .agg #[.int .i64 c.f0, .int .i64 c.f1, .int .i64 c.f2]]).run Try.prog w = .ok (.tuple #[]) w' ∧ MapAt w' b (dropL L c) ∧ w.grownBy w' (some b) ∧ w'.heap.size = w.heap.size := by
  obtain ⟨D, h1, h2⟩ := h
  obtain ⟨w', hrun, h3, h4⟩ := h1.drop law30 Try.underlying56 (key_mk c hc) ty
  have h5 := h2.del (h1.tidy law30) hc
  refine ⟨w', hrun, ⟨_, ?_, h5⟩, h4.grown, ?_⟩
  · rw [← h5.size]; exact ownsMap_tight h3
  · obtain ⟨es, clock, es', clock', _, rfl⟩ := h4
    simp [setBlock]
theorem MapAt.store (h : MapAt w b L) (c : S30) (hc : Wc c) (n : Int) (hn : Wf n) (hlen : L.length < maxLen) :
    ∃ w', (Instr.mapUpdate 56 (.map (some b)) (.agg #[.int .i64 c.f0, .int .i64 c.f1, .int .i64 c.f2]) (.int .i64 n)).run Try.prog w = .ok () w' ∧ MapAt w' b (putL L c n) ∧ w.grownBy w' (some b) ∧ w'.heap.size = w.heap.size := by
  obtain ⟨D, h1, h2⟩ := h
  obtain ⟨w', hrun, h3, h4⟩ := h1.store law30 Try.underlying56 hlen (key_mk c hc) (plainElem_int Try.underlying3 hn)
  have h5 := h2.put (h1.tidy law30) hc hn
  refine ⟨w', hrun, ⟨_, ?_, h5⟩, h4.grown, ?_⟩
  · rw [← h5.size]; exact ownsMap_tight h3
  · obtain ⟨es, clock, es', clock', _, rfl⟩ := h4
    simp [setBlock]
end

/-! ### ranging -/
/-- A range over the map at b is under way, its iterator in block r; the cells of 'done' have come (in this order). -/
def Rng (w : World) (b r : Nat) (L : List Wt) (done : List S30) : Prop :=
  ∃ (D : DataW Unit) (left : Lit → Bool) (cnt : Nat), w.ranges Try.prog 30 (plainElem Try.prog 3) b r L.length D left cnt ∧ MapOf D L ∧ done.Nodup ∧ (∀ c ∈ done, (look L c).isSome = true ∧ left (kL c) = false) ∧
    (∀ c, (look L c).isSome = true → c ∉ done → left (kL c) = true) ∧ done.length + cnt ≤ L.length
section
variable {w w' : World} {b r : Nat} {L : List Wt} {done : List S30}
theorem Rng.move (h : Rng w b r L done) (hb : w'.heap[b]? = w.heap[b]?) (hr : w'.heap[r]? = w.heap[r]?) : Rng w' b r L done := by
  obtain ⟨D, left, cnt, ⟨es, clock, since, seen, c0, h1, h2, h3, h4, h5, h6⟩, rest⟩ := h
  exact ⟨D, left, cnt, ⟨es, clock, since, seen, c0, hb.trans h1, h2, h3, h4, hr.trans h5, h6⟩, rest⟩
theorem Rng.ne (h : Rng w b r L done) : r ≠ b := by obtain ⟨D, left, cnt, h1, _⟩ := h; exact h1.ne
theorem Rng.lt (h : Rng w b r L done) : r < w.heap.size := by obtain ⟨D, left, cnt, h1, _⟩ := h; exact h1.lt
theorem Rng.obj (h : Rng w b r L done) : ∃ m since seen c0, w.heap[r]? = some (.mapIter m since seen c0) := by
  obtain ⟨D, left, cnt, ⟨es, clock, since, seen, c0, h1, h2, h3, h4, h5, h6⟩, rest⟩ := h
  exact ⟨_, _, _, _, h5⟩
theorem Rng.mapAt (h : Rng w b r L done) : MapAt w b L := by obtain ⟨D, left, cnt, h1, h2, _⟩ := h; exact ⟨D, h1.owns, h2⟩
theorem Rng.le (h : Rng w b r L done) : done.length ≤ L.length := by obtain ⟨D, left, cnt, _, _, _, _, _, h⟩ := h; omega
theorem MapAt.range (h : MapAt w b L) : ∃ w', (Instr.range 56 (.map (some b))).run Try.prog w = .ok (.pointer (some ⟨w.heap.size, 0, none⟩)) w' ∧ Rng w' b w.heap.size L [] ∧ w.grownBy w' none ∧ w'.heap.size = w.heap.size + 1 := by
  obtain ⟨D, h1, h2⟩ := h
  obtain ⟨w', hrun, h3, h4, h5⟩ := h1.range law30 Try.underlying56
  refine ⟨w', hrun, ⟨D, _, _, h3, h2, List.nodup_nil, (fun c hc => by cases hc), (fun c hc _ => ?_), ?_⟩, h4, h5⟩
  · have hw := (h2.wf _ (look_some (Option.some_get hc).symm)).1
    rw [h2.has c hw]; exact hc
  · rw [h2.size]; simp
/-- The step: nothing is left, or a cell has come. -/
theorem Rng.next (h : Rng w b r L done) (ty : TypeId) :
    ((done.Perm (L.map (·.1))) ∧ (Instr.next (.pointer (some ⟨r, 0, none⟩)) false ty).run Try.prog w = .ok (.tuple #[.bool false]) w) ∨
    ∃ c n w', look L c = some n ∧ c ∉ done ∧ (Instr.next (.pointer (some ⟨r, 0, none⟩)) false ty).run Try.prog w = .ok (.tuple #[.bool true, .agg #[.int .i64 c.f0, .int .i64 c.f1, .int .i64 c.f2], .int .i64 n]) w' ∧ Rng w' b r L (done ++ [c]) ∧ w.grownBy w' (some r) ∧ w'.heap.size = w.heap.size ∧
      (Instr.entry (.pointer (some ⟨r, 0, none⟩))).run Try.prog w' = .ok (.tuple #[.agg #[.int .i64 c.f0, .int .i64 c.f1, .int .i64 c.f2], .int .i64 n]) w' := by
  obtain ⟨D, left, cnt, h1, h2, h3, h4, h5, h6⟩ := h
  rcases h1.next law30 ty with ⟨h0, hl, hrun⟩ | ⟨key, v, kl, y, w', cnt', hkey, hlk, hv, hat, hrun, hrg, hlt, hgr, hsz, hen⟩
  · refine Or.inl ⟨?_, hrun⟩
    refine (List.perm_ext_iff_of_nodup h3 h2.uniq).2 (fun c => ⟨fun hc => look_isSome.1 (h4 c hc).1, fun hc => ?_⟩)
    apply Classical.byContradiction
    intro hn
    have := h5 c (look_isSome.2 hc) hn
    rw [hl] at this
    cases this
  · obtain ⟨c, hc, rfl, rfl⟩ := key_inv hkey
    obtain ⟨n, rfl, hn, hwn⟩ := plainElem_int_inv Try.underlying3 hv
    have hhas : (look L c).isSome = true := by
      rw [← h2.has c hc]
      exact has_true_of_atKey hat
    have hnd : c ∉ done := fun hm => by rw [(h4 c hm).2] at hlk; cases hlk
    have hlook : look L c = some n := by
      cases hl : look L c with
      | none => rw [hl] at hhas; cases hhas
      | some m =>
        have e1 := h2.at_ c m hl (lv 0)
        rw [hat (lv 0), hn] at e1
        simp only [lv] at e1
        injection e1 with e; injection e with _ e; rw [e]
    obtain ⟨es, clock, since, seen, c0, g1, g2, g3, g4, g5, g6, g7, g8, g9⟩ := hrg
    refine Or.inr ⟨c, n, w', hlook, hnd, hrun, ⟨D, _, cnt', ⟨es, clock, since, seen, c0, g1, g2, g3, g4, g5, g6, g7, g8, g9⟩, h2, ?_, ?_, ?_, ?_⟩, hgr, hsz, hen⟩
    · rw [List.nodup_append]
      exact ⟨h3, by simp, fun a ha b hb e => by simp at hb; subst hb e; exact hnd ha⟩
    · intro d hd
      rcases List.mem_append.1 hd with hd | hd
      · exact ⟨(h4 d hd).1, by rw [(h4 d hd).2]; rfl⟩
      · simp at hd; subst hd
        exact ⟨hhas, by rw [sameKey_kL hc hc]; simp⟩
    · intro d hs hd
      simp only [List.mem_append, List.mem_singleton, not_or] at hd
      have hwd := (h2.wf _ (look_some (Option.some_get hs).symm)).1
      rw [h5 d hs hd.1, sameKey_kL hwd hc, decide_eq_false hd.2]; rfl
    · simp only [List.length_append, List.length_singleton]; omega
end
end Go.Proofs.Ytgkbcgmcpbbneaa.Q
