/- The walks of queue.New, Put, Drop, Len, Level. -/
import Derived.Test.YtgkbcgmcpbbneaaOf2
import Derived.Test.YtgkbcgmcpbbneaaPop
namespace Go.Proofs.Ytgkbcgmcpbbneaa.Q
open Go Go.RowKit Go.Maps Go.Proofs.YtgkbcgmcpbbneaaW.PrintWords Go.Proofs.YtgkbcgmcpbbneaaW.PrintLast Go.Proofs.YtgkbcgmcpbbneaaW.PrintMore
attribute [local go_sem] max2_int min2_int max_two min_two max_three min_three max_four min_four
set_option maxRecDepth 100000
set_option linter.unusedVariables false
set_option linter.unusedSimpArgs false
section
variable {w w' : World} {F : Nat → Prop} {qb mb : Nat} {vs vh vh' : Value} {L L' : List Wt} {sn : List S46} {hp hp' : List S63}
theorem QuAt.drew (h : QuAt w F qb mb vs vh L sn hp) : QuAt w.drew F qb mb vs vh L sn hp := h.move (fun _ _ _ => rfl)
theorem QuAt.afterStore (h : QuAt w F qb mb vs vh L sn hp) (hM : MapAt w' mb L') (hg : w.grownBy w' (some mb)) : QuAt w' F qb mb vs vh L' sn hp := by
  have h1 := Kd.R_step (w1 := w') (Kd.R_tight rfl h.seen) (fun k hk hlt => hg.block k hlt (fun e => R_ne_map h.seen h.map (hk.symm.trans e)))
  have h2 := Kd.R_step (w1 := w') (Kd.R_tight rfl h.heap) (fun k hk hlt => hg.block k hlt (fun e => R_ne_map h.heap h.map (hk.symm.trans e)))
  exact ⟨blk_grown h.blk hg (fun e => h.ne (Option.some.inj e).symm), hM, Kd.R_mono h1 (fun k hk => h.seen.1 k hk.symm), Kd.R_mono h2 (fun k hk => h.heap.1 k hk.symm), h.fq, h.fm⟩
theorem R_two {a b : Value} {xs : List S46} {ys : List S63} {base base' : Nat} {ok ok' : Nat → Prop} (h : Kd.R k46 46 w base ok a xs) (k : Kd.R k63 63 w base' ok' b ys) {j : Nat} (hj : a.ownBlock = some j) : some j ≠ b.ownBlock := fun e => by
  obtain ⟨c1, h1⟩ := Kd.R_typed h j hj
  obtain ⟨c2, h2⟩ := Kd.R_typed k j e.symm
  rw [h1] at h2
  injection h2 with h2
  injection h2 with _ ht
  cases ht
theorem QuAt.afterHeap {F2 : Nat → Prop} (h : QuAt w F qb mb vs vh L sn hp) (hq : QB w' qb mb vs vh') (hr : Kd.R k63 63 w' 0 F2 vh' hp') (hk : Kp w w' (fun k => k = qb ∨ some k = vh.ownBlock)) (hF : ∀ k, F k → F2 k) : QuAt w' F2 qb mb vs vh' L sn hp' := by
  have hm : w'.heap[mb]? = w.heap[mb]? := hk.block mb h.map.lt (fun e => by
    rcases e with e | e
    · exact h.ne e
    · exact R_ne_map h.heap h.map e.symm)
  have h1 := Kd.R_step (w1 := w') (Kd.R_tight rfl h.seen) (fun k ho hlt => hk.block k hlt (fun e => by
    rcases e with e | e
    · subst e; exact Kd.R_ne h.seen h.blk (by decide) ho
    · exact R_two h.seen h.heap ho.symm e))
  exact ⟨hq, h.map.move hm, Kd.R_mono h1 (fun k ho => hF k (h.seen.1 k ho.symm)), hr, hF _ h.fq, hF _ h.fm⟩
end
theorem wpList_len_at {ops : Array Oper} {rest : List Oper} {o : Oper} {a : Act} {Q : Exit → Act → World → Prop} {b : Nat} {L : List Wt} (w : World) (hg : o.guard = none) (m : Operand) (hop : o.op = Op.call { callee := Callee.builtin Builtin.len, args := #[m], argTypes := #[56] })
    (hm : a.eval m = .map (some b)) (h : MapAt w b L) (hK : wpList Try.prog ops Q rest (a.put o.dst (.int .i64 (L.length : Int))) w) : wpList Try.prog ops Q (o :: rest) a w := by
  obtain ⟨D, h1, h2⟩ := h
  exact wpList_len_own w hg m 56 hop 30 3 Try.underlying56 _ b _ D hm h1 (by rw [h2.size]; exact hK)

set_option maxHeartbeats 8000000 in
theorem new_calls (w : World) : Calls Try.prog 16 #[] w fun e w' => e = .returned (.pointer (some ⟨w.heap.size + 1, 0, none⟩)) ∧ QuAt w' (fun k => w.heap.size ≤ k) (w.heap.size + 1) w.heap.size (.slice none 0 0) (.slice none 0 0) [] [] [] ∧ Below w.heap.size w w' := by
  have hu61 := Try.underlying61
  have hu59 := Try.underlying59
  have hmm := @run_makeMap Try.prog
  go_enter Try.func16, Try.ntmps16
  go_wp2
  go_ret
  refine ⟨by simp, ?_, below_alloc (below_alloc (Below.refl _ _) _) _⟩
  have h1 : (w.alloc (.map #[] 0)).heap.size = w.heap.size + 1 := by simp
  refine ⟨?_, MapAt.below (MapAt.made w) (below_alloc (Below.refl _ _) _), Kd.R_nil _ _ _ _ _, Kd.R_nil _ _ _ _ _, Nat.le_succ _, Nat.le_refl _⟩
  have := blk_new (w.alloc (.map #[] 0)) (.cells (qcs w.heap.size (.slice none 0 0) (.slice none 0 0)) 61 (0, 0))
  rw [h1] at this
  exact this

set_option maxHeartbeats 8000000 in
theorem len_calls (w : World) (F : Nat → Prop) (qb mb : Nat) (vs vh : Value) (L : List Wt) (sn : List S46) (hp : List S63) (hQ : QuAt w F qb mb vs vh L sn hp) : Calls Try.prog 14 #[.pointer (some ⟨qb, 0, none⟩)] w fun e w' => e = .returned (.int .i64 (L.length : Int)) ∧ w = w' := by
  have hu61 := Try.underlying61
  have HM := Aside0.mk hQ.map
  have hc0 : w.cell? ⟨qb, 0, none⟩ = some (.map (some mb)) := (blk_cell hQ.blk 0).trans rfl
  clear hQ
  go_enter Try.func14, Try.ntmps14
  go_wp2_with (at_len; refine wpList_len_at _ rfl _ rfl rfl HM.out ?_)
  go_ret
  exact ⟨rfl, rfl⟩

set_option maxHeartbeats 8000000 in
theorem level_calls (w : World) (F : Nat → Prop) (qb mb : Nat) (vs vh : Value) (L : List Wt) (sn : List S46) (hp : List S63) (hQ : QuAt w F qb mb vs vh L sn hp) (c : S30) (hc : Wc c) : Calls Try.prog 23 #[.pointer (some ⟨qb, 0, none⟩), .agg #[.int .i64 c.f0, .int .i64 c.f1, .int .i64 c.f2]] w fun e w' => e = .returned (.tuple #[.int .i64 ((look L c).getD 0), .bool (look L c).isSome]) ∧ Below w.heap.size w w' := by
  have hu61 := Try.underlying61
  have hu30 := Try.underlying30
  have HB := Aside0.mk (Below.refl w.heap.size w)
  have HA := Aside0.mk hQ
  have HWC := Aside0.mk hc
  clear hQ hc
  go_enter Try.func23, Try.ntmps23
  go_wp2_with ((with_reducible refine gate_dst (N := 3) rfl ?_); refine box_event ?hg (N := 3) ?hd (cs := #[(.int .i64 c.f0), (.int .i64 c.f1), (.int .i64 c.f2)]) (t := 30) ?hr ?_; (case hd => rfl); (case hg => rfl); (case hr => first | (go_simp; done) | (go_simp; rfl)); intro gc hg w1 hbox hb; have GEgc : Aside0 (w.heap.size ≤ gc) := ⟨by rw [hg]; exact HB.out.size⟩; have n0_ : Aside0 (Below w.heap.size w w1) := ⟨(below_step HB.out hb)⟩; have n1_ : Aside0 (QuAt w1 F qb mb vs vh L sn hp) := ⟨(QuAt.below HA.out hb)⟩; clear HB HA; have HB := n0_; have HA := n1_; clear n0_ n1_; have BKgc : Aside0 (w1.heap[gc]? = some (.cells #[(.int .i64 c.f0), (.int .i64 c.f1), (.int .i64 c.f2)] 30 (0, 0))) := ⟨hbox⟩; clear hb hbox hg)
  refine start_ (n := 11) (S := fun w' => w'.cell? ⟨qb, 0, none⟩ = some (.map (some mb)) ∧ w'.cell? ⟨gc, 0, none⟩ = some ((.int .i64 c.f0)) ∧ w'.cell? ⟨gc, 1, none⟩ = some ((.int .i64 c.f1)) ∧ w'.cell? ⟨gc, 2, none⟩ = some ((.int .i64 c.f2)) ∧ (Instr.lookup 56 (.map (some mb)) (.agg #[.int .i64 c.f0, .int .i64 c.f1, .int .i64 c.f2]) true).run Try.prog w' = .ok (.tuple #[.int .i64 ((look L c).getD 0), .bool (look L c).isSome]) w') (ds := []) #[false, false, false, false, false, false, false, false, false, false, false] (by kernel_rfl) rfl rfl ⟨(blk_cell HA.out.blk 0).trans rfl, (blk_cell BKgc.out 0).trans rfl, (blk_cell BKgc.out 1).trans rfl, (blk_cell BKgc.out 2).trans rfl, (HA.out.drew).map.look_ok c HWC.out⟩ (fun hHeld => ?_)
  refine pure_ (i := 0) (N := some 9) (v := ?_) (a' := ?_) #[true, false, false, false, false, false, false, false, false, false, false] rfl rfl (by kernel_rfl) (fun _ _ _ h => h) (Or.inl ⟨by rfl, ?_⟩) ?_ ?_
  rotate_left
  · intro w'
    go_simp
    with_reducible rfl
  rotate_left
  · simp only [Act.put, List.setIfInBounds_toArray, List.set_cons_zero, List.set_cons_succ, i64_w, i32_w]
    rfl
  refine pure_ (i := 1) (N := some 10) (v := ?_) (a' := ?_) #[true, true, false, false, false, false, false, false, false, false, false] rfl rfl (by kernel_rfl) (fun _ _ _ h => h) (Or.inl ⟨by rfl, ?_⟩) ?_ ?_
  rotate_left
  · intro w'
    go_simp
    with_reducible rfl
  rotate_left
  · simp only [Act.put, List.setIfInBounds_toArray, List.set_cons_zero, List.set_cons_succ, i64_w, i32_w]
    rfl
  refine pure_ (i := 2) (N := some 11) (v := ?_) (a' := ?_) #[true, true, true, false, false, false, false, false, false, false, false] rfl rfl (by kernel_rfl) (fun _ _ _ h => h) (Or.inl ⟨by rfl, ?_⟩) ?_ ?_
  rotate_left
  · intro w'
    go_simp
    with_reducible rfl
  rotate_left
  · simp only [Act.put, List.setIfInBounds_toArray, List.set_cons_zero, List.set_cons_succ, i64_w, i32_w]
    rfl
  refine take_ (i := 3) (N := some 12) (v := ?_) (a' := ?_) #[true, true, true, true, false, false, false, false, false, false, false] rfl rfl (by kernel_rfl) (fun _ _ _ h => h) (Or.inl ⟨by rfl, ?_⟩) hHeld ?_ ?_
  rotate_left
  · rintro w' ⟨s0, s1, s2, s3, s4⟩
    go_simp
    with_reducible rfl
  rotate_left
  · simp only [Act.put, List.setIfInBounds_toArray, List.set_cons_zero, List.set_cons_succ, i64_w, i32_w]
    rfl
  refine take_ (i := 4) (N := some 13) (v := ?_) (a' := ?_) #[true, true, true, true, true, false, false, false, false, false, false] rfl rfl (by kernel_rfl) (fun _ _ _ h => h) (Or.inl ⟨by rfl, ?_⟩) hHeld ?_ ?_
  rotate_left
  · rintro w' ⟨s0, s1, s2, s3, s4⟩
    go_simp
    with_reducible rfl
  rotate_left
  · simp only [Act.put, List.setIfInBounds_toArray, List.set_cons_zero, List.set_cons_succ, i64_w, i32_w]
    rfl
  refine take_ (i := 5) (N := some 14) (v := ?_) (a' := ?_) #[true, true, true, true, true, true, false, false, false, false, false] rfl rfl (by kernel_rfl) (fun _ _ _ h => h) (Or.inl ⟨by rfl, ?_⟩) hHeld ?_ ?_
  rotate_left
  · rintro w' ⟨s0, s1, s2, s3, s4⟩
    go_simp
    with_reducible rfl
  rotate_left
  · simp only [Act.put, List.setIfInBounds_toArray, List.set_cons_zero, List.set_cons_succ, i64_w, i32_w]
    rfl
  refine pure_ (i := 6) (N := some 8) (v := ?_) (a' := ?_) #[true, true, true, true, true, true, true, false, false, false, false] rfl rfl (by kernel_rfl) (fun _ _ _ h => h) (Or.inl ⟨by rfl, ?_⟩) ?_ ?_
  rotate_left
  · intro w'
    go_simp
    with_reducible rfl
  rotate_left
  · simp only [Act.put, List.setIfInBounds_toArray, List.set_cons_zero, List.set_cons_succ, i64_w, i32_w]
    rfl
  refine pure_ (i := 7) (N := some 15) (v := ?_) (a' := ?_) #[true, true, true, true, true, true, true, true, false, false, false] rfl rfl (by kernel_rfl) (fun _ _ _ h => h) (Or.inl ⟨by rfl, ?_⟩) ?_ ?_
  rotate_left
  · intro w'
    go_simp
    with_reducible rfl
  rotate_left
  · simp only [Act.put, List.setIfInBounds_toArray, List.set_cons_zero, List.set_cons_succ, i64_w, i32_w]
    rfl
  refine pure_ (i := 8) (N := some 16) (v := ?_) (a' := ?_) #[true, true, true, true, true, true, true, true, true, false, false] rfl rfl (by kernel_rfl) (fun _ _ _ h => h) (Or.inl ⟨by rfl, ?_⟩) ?_ ?_
  rotate_left
  · intro w'
    go_simp
    with_reducible rfl
  rotate_left
  · simp only [Act.put, List.setIfInBounds_toArray, List.set_cons_zero, List.set_cons_succ, i64_w, i32_w]
    rfl
  refine pure_ (i := 9) (N := some 6) (v := ?_) (a' := ?_) #[true, true, true, true, true, true, true, true, true, true, false] rfl rfl (by kernel_rfl) (fun _ _ _ h => h) (Or.inl ⟨by rfl, ?_⟩) ?_ ?_
  rotate_left
  · intro w'
    go_simp
    with_reducible rfl
  rotate_left
  · simp only [Act.put, List.setIfInBounds_toArray, List.set_cons_zero, List.set_cons_succ, i64_w, i32_w]
    rfl
  refine pure_ (i := 10) (N := some 7) (v := ?_) (a' := ?_) #[true, true, true, true, true, true, true, true, true, true, true] rfl rfl (by kernel_rfl) (fun _ _ _ h => h) (Or.inl ⟨by rfl, ?_⟩) ?_ ?_
  rotate_left
  · intro w'
    go_simp
    with_reducible rfl
  rotate_left
  · simp only [Act.put, List.setIfInBounds_toArray, List.set_cons_zero, List.set_cons_succ, i64_w, i32_w]
    rfl
  refine done_ (by kernel_rfl) ?_
  go_wp2
  go_ret2
  exact ⟨rfl, below_drew1 HB.out⟩

set_option maxHeartbeats 8000000 in
theorem drop_calls (w : World) (F : Nat → Prop) (qb mb : Nat) (vs vh : Value) (L : List Wt) (sn : List S46) (hp : List S63) (hQ : QuAt w F qb mb vs vh L sn hp) (c : S30) (hc : Wc c) : Calls Try.prog 13 #[.pointer (some ⟨qb, 0, none⟩), .agg #[.int .i64 c.f0, .int .i64 c.f1, .int .i64 c.f2]] w fun e w' => e = .returned (.bool (look L c).isSome) ∧ QuAt w' F qb mb vs vh (dropL L c) sn hp ∧ Kp w w' (fun k => k = mb) := by
  have hu61 := Try.underlying61
  have hu30 := Try.underlying30
  have HB := Aside0.mk (Below.refl w.heap.size w)
  have HA := Aside0.mk hQ
  have HWC := Aside0.mk hc
  clear hQ hc
  go_enter Try.func13, Try.ntmps13
  go_wp2_with ((with_reducible refine gate_dst (N := 3) rfl ?_); refine box_event ?hg (N := 3) ?hd (cs := #[(.int .i64 c.f0), (.int .i64 c.f1), (.int .i64 c.f2)]) (t := 30) ?hr ?_; (case hd => rfl); (case hg => rfl); (case hr => first | (go_simp; done) | (go_simp; rfl)); intro gc hg w1 hbox hb; have GEgc : Aside0 (w.heap.size ≤ gc) := ⟨by rw [hg]; exact HB.out.size⟩; have n0_ : Aside0 (Below w.heap.size w w1) := ⟨(below_step HB.out hb)⟩; have n1_ : Aside0 (QuAt w1 F qb mb vs vh L sn hp) := ⟨(QuAt.below HA.out hb)⟩; clear HB HA; have HB := n0_; have HA := n1_; clear n0_ n1_; have BKgc : Aside0 (w1.heap[gc]? = some (.cells #[(.int .i64 c.f0), (.int .i64 c.f1), (.int .i64 c.f2)] 30 (0, 0))) := ⟨hbox⟩; clear hb hbox hg)
  refine start_ (n := 11) (S := fun w' => w'.cell? ⟨qb, 0, none⟩ = some (.map (some mb)) ∧ w'.cell? ⟨gc, 0, none⟩ = some ((.int .i64 c.f0)) ∧ w'.cell? ⟨gc, 1, none⟩ = some ((.int .i64 c.f1)) ∧ w'.cell? ⟨gc, 2, none⟩ = some ((.int .i64 c.f2)) ∧ (Instr.lookup 56 (.map (some mb)) (.agg #[.int .i64 c.f0, .int .i64 c.f1, .int .i64 c.f2]) true).run Try.prog w' = .ok (.tuple #[.int .i64 ((look L c).getD 0), .bool (look L c).isSome]) w') (ds := []) #[false, false, false, false, false, false, false, false, false, false, false] (by kernel_rfl) rfl rfl ⟨(blk_cell HA.out.blk 0).trans rfl, (blk_cell BKgc.out 0).trans rfl, (blk_cell BKgc.out 1).trans rfl, (blk_cell BKgc.out 2).trans rfl, (HA.out.drew).map.look_ok c HWC.out⟩ (fun hHeld => ?_)
  refine pure_ (i := 0) (N := some 8) (v := ?_) (a' := ?_) #[true, false, false, false, false, false, false, false, false, false, false] rfl rfl (by kernel_rfl) (fun _ _ _ h => h) (Or.inl ⟨by rfl, ?_⟩) ?_ ?_
  rotate_left
  · intro w'
    go_simp
    with_reducible rfl
  rotate_left
  · simp only [Act.put, List.setIfInBounds_toArray, List.set_cons_zero, List.set_cons_succ, i64_w, i32_w]
    rfl
  refine pure_ (i := 1) (N := some 9) (v := ?_) (a' := ?_) #[true, true, false, false, false, false, false, false, false, false, false] rfl rfl (by kernel_rfl) (fun _ _ _ h => h) (Or.inl ⟨by rfl, ?_⟩) ?_ ?_
  rotate_left
  · intro w'
    go_simp
    with_reducible rfl
  rotate_left
  · simp only [Act.put, List.setIfInBounds_toArray, List.set_cons_zero, List.set_cons_succ, i64_w, i32_w]
    rfl
  refine pure_ (i := 2) (N := some 10) (v := ?_) (a' := ?_) #[true, true, true, false, false, false, false, false, false, false, false] rfl rfl (by kernel_rfl) (fun _ _ _ h => h) (Or.inl ⟨by rfl, ?_⟩) ?_ ?_
  rotate_left
  · intro w'
    go_simp
    with_reducible rfl
  rotate_left
  · simp only [Act.put, List.setIfInBounds_toArray, List.set_cons_zero, List.set_cons_succ, i64_w, i32_w]
    rfl
  refine take_ (i := 3) (N := some 11) (v := ?_) (a' := ?_) #[true, true, true, true, false, false, false, false, false, false, false] rfl rfl (by kernel_rfl) (fun _ _ _ h => h) (Or.inl ⟨by rfl, ?_⟩) hHeld ?_ ?_
  rotate_left
  · rintro w' ⟨s0, s1, s2, s3, s4⟩
    go_simp
    with_reducible rfl
  rotate_left
  · simp only [Act.put, List.setIfInBounds_toArray, List.set_cons_zero, List.set_cons_succ, i64_w, i32_w]
    rfl
  refine take_ (i := 4) (N := some 12) (v := ?_) (a' := ?_) #[true, true, true, true, true, false, false, false, false, false, false] rfl rfl (by kernel_rfl) (fun _ _ _ h => h) (Or.inl ⟨by rfl, ?_⟩) hHeld ?_ ?_
  rotate_left
  · rintro w' ⟨s0, s1, s2, s3, s4⟩
    go_simp
    with_reducible rfl
  rotate_left
  · simp only [Act.put, List.setIfInBounds_toArray, List.set_cons_zero, List.set_cons_succ, i64_w, i32_w]
    rfl
  refine take_ (i := 5) (N := some 13) (v := ?_) (a' := ?_) #[true, true, true, true, true, true, false, false, false, false, false] rfl rfl (by kernel_rfl) (fun _ _ _ h => h) (Or.inl ⟨by rfl, ?_⟩) hHeld ?_ ?_
  rotate_left
  · rintro w' ⟨s0, s1, s2, s3, s4⟩
    go_simp
    with_reducible rfl
  rotate_left
  · simp only [Act.put, List.setIfInBounds_toArray, List.set_cons_zero, List.set_cons_succ, i64_w, i32_w]
    rfl
  refine pure_ (i := 6) (N := some 7) (v := ?_) (a' := ?_) #[true, true, true, true, true, true, true, false, false, false, false] rfl rfl (by kernel_rfl) (fun _ _ _ h => h) (Or.inl ⟨by rfl, ?_⟩) ?_ ?_
  rotate_left
  · intro w'
    go_simp
    with_reducible rfl
  rotate_left
  · simp only [Act.put, List.setIfInBounds_toArray, List.set_cons_zero, List.set_cons_succ, i64_w, i32_w]
    rfl
  refine pure_ (i := 7) (N := some 14) (v := ?_) (a' := ?_) #[true, true, true, true, true, true, true, true, false, false, false] rfl rfl (by kernel_rfl) (fun _ _ _ h => h) (Or.inl ⟨by rfl, ?_⟩) ?_ ?_
  rotate_left
  · intro w'
    go_simp
    with_reducible rfl
  rotate_left
  · simp only [Act.put, List.setIfInBounds_toArray, List.set_cons_zero, List.set_cons_succ, i64_w, i32_w]
    rfl
  refine pure_ (i := 8) (N := some 15) (v := ?_) (a' := ?_) #[true, true, true, true, true, true, true, true, true, false, false] rfl rfl (by kernel_rfl) (fun _ _ _ h => h) (Or.inl ⟨by rfl, ?_⟩) ?_ ?_
  rotate_left
  · intro w'
    go_simp
    with_reducible rfl
  rotate_left
  · simp only [Act.put, List.setIfInBounds_toArray, List.set_cons_zero, List.set_cons_succ, i64_w, i32_w]
    rfl
  refine pure_ (i := 9) (N := some 5) (v := ?_) (a' := ?_) #[true, true, true, true, true, true, true, true, true, true, false] rfl rfl (by kernel_rfl) (fun _ _ _ h => h) (Or.inl ⟨by rfl, ?_⟩) ?_ ?_
  rotate_left
  · intro w'
    go_simp
    with_reducible rfl
  rotate_left
  · simp only [Act.put, List.setIfInBounds_toArray, List.set_cons_zero, List.set_cons_succ, i64_w, i32_w]
    rfl
  refine pure_ (i := 10) (N := some 6) (v := ?_) (a' := ?_) #[true, true, true, true, true, true, true, true, true, true, true] rfl rfl (by kernel_rfl) (fun _ _ _ h => h) (Or.inl ⟨by rfl, ?_⟩) ?_ ?_
  rotate_left
  · intro w'
    go_simp
    with_reducible rfl
  rotate_left
  · simp only [Act.put, List.setIfInBounds_toArray, List.set_cons_zero, List.set_cons_succ, i64_w, i32_w]
    rfl
  refine done_ (by kernel_rfl) ?_
  have n0_ : Aside0 (Below w.heap.size w w1.drew) := ⟨(below_step HB.out (below_drew1 (Below.refl _ w1)))⟩
  have n1_ : Aside0 (QuAt w1.drew F qb mb vs vh L sn hp) := ⟨(QuAt.below HA.out (below_drew1 (Below.refl _ w1)))⟩
  have n2_ : Aside0 (w1.drew.heap[gc]? = some (.cells #[(.int .i64 c.f0), (.int .i64 c.f1), (.int .i64 c.f2)] 30 (0, 0))) := ⟨(blk_below BKgc.out (below_drew1 (Below.refl _ w1)))⟩
  clear HB HA BKgc
  have HB := n0_
  have HA := n1_
  have BKgc := n2_
  clear n0_ n1_ n2_
  generalize w1.drew = w2 at HB HA BKgc ⊢
  go_wp2
  refine start_ (n := 6) (S := fun w' => w'.cell? ⟨qb, 0, none⟩ = some (.map (some mb)) ∧ w'.cell? ⟨gc, 0, none⟩ = some ((.int .i64 c.f0)) ∧ w'.cell? ⟨gc, 1, none⟩ = some ((.int .i64 c.f1)) ∧ w'.cell? ⟨gc, 2, none⟩ = some ((.int .i64 c.f2))) (ds := [5]) #[false, false, false, false, false, false] (by kernel_rfl) rfl rfl ⟨(blk_cell HA.out.blk 0).trans rfl, (blk_cell BKgc.out 0).trans rfl, (blk_cell BKgc.out 1).trans rfl, (blk_cell BKgc.out 2).trans rfl⟩ (fun hHeld => ?_)
  refine pure_ (i := 0) (N := some 16) (v := ?_) (a' := ?_) #[true, false, false, false, false, false] rfl rfl (by kernel_rfl) (fun _ _ _ h => h) (Or.inl ⟨by rfl, ?_⟩) ?_ ?_
  rotate_left
  · intro w'
    go_simp
    with_reducible rfl
  rotate_left
  · simp only [Act.put, List.setIfInBounds_toArray, List.set_cons_zero, List.set_cons_succ, i64_w, i32_w]
    rfl
  refine pure_ (i := 1) (N := some 17) (v := ?_) (a' := ?_) #[true, true, false, false, false, false] rfl rfl (by kernel_rfl) (fun _ _ _ h => h) (Or.inl ⟨by rfl, ?_⟩) ?_ ?_
  rotate_left
  · intro w'
    go_simp
    with_reducible rfl
  rotate_left
  · simp only [Act.put, List.setIfInBounds_toArray, List.set_cons_zero, List.set_cons_succ, i64_w, i32_w]
    rfl
  refine pure_ (i := 2) (N := some 18) (v := ?_) (a' := ?_) #[true, true, true, false, false, false] rfl rfl (by kernel_rfl) (fun _ _ _ h => h) (Or.inl ⟨by rfl, ?_⟩) ?_ ?_
  rotate_left
  · intro w'
    go_simp
    with_reducible rfl
  rotate_left
  · simp only [Act.put, List.setIfInBounds_toArray, List.set_cons_zero, List.set_cons_succ, i64_w, i32_w]
    rfl
  refine take_ (i := 3) (N := some 19) (v := ?_) (a' := ?_) #[true, true, true, true, false, false] rfl rfl (by kernel_rfl) (fun _ _ _ h => h) (Or.inl ⟨by rfl, ?_⟩) hHeld ?_ ?_
  rotate_left
  · rintro w' ⟨s0, s1, s2, s3⟩
    go_simp
    with_reducible rfl
  rotate_left
  · simp only [Act.put, List.setIfInBounds_toArray, List.set_cons_zero, List.set_cons_succ, i64_w, i32_w]
    rfl
  refine take_ (i := 4) (N := some 20) (v := ?_) (a' := ?_) #[true, true, true, true, true, false] rfl rfl (by kernel_rfl) (fun _ _ _ h => h) (Or.inl ⟨by rfl, ?_⟩) hHeld ?_ ?_
  rotate_left
  · rintro w' ⟨s0, s1, s2, s3⟩
    go_simp
    with_reducible rfl
  rotate_left
  · simp only [Act.put, List.setIfInBounds_toArray, List.set_cons_zero, List.set_cons_succ, i64_w, i32_w]
    rfl
  refine last_ (i := 5) (N := none) #[true, true, true, true, true, true] rfl rfl (by kernel_rfl) (by decide) (fun K hK => ?_)
  obtain ⟨w3, hrun, hM3, hg3, hs3⟩ := MapAt.drop (w := w2.drew) (HA.out.drew).map c HWC.out 0
  have HM3 := Aside0.mk hM3
  have HG3 := Aside0.mk hg3
  clear hM3 hg3 hs3
  refine value_ (w1 := w3) (v := .tuple #[]) (by rfl) rfl (by simp [execOp, resolve, invoke, builtin, Act.eval, hrun, Result.andThen]) ?_
  clear hrun
  refine hK.out _ _ ?_
  clear hK K
  refine done_ (by kernel_rfl) ?_
  go_wp2
  go_ret
  have hk1 : Kp w w2.drew (fun k => k = mb) := Kp.drew (Kp.of_below HB.out _)
  exact ⟨rfl, QuAt.afterStore HA.out.drew HM3.out HG3.out, hk1.then_ (Kp.of_grown (S := fun k => k = mb) HG3.out (fun k hk => (Option.some.inj hk).symm)) (fun k hk => .inl hk)⟩

end Go.Proofs.Ytgkbcgmcpbbneaa.Q
