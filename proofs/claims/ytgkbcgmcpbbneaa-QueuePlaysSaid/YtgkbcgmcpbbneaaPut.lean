/- The walk of queue.Put. -/
import Derived.Test.YtgkbcgmcpbbneaaSmall
namespace Go.Proofs.Ytgkbcgmcpbbneaa.Q
open Go Go.RowKit Go.Maps Go.Proofs.YtgkbcgmcpbbneaaW.PrintWords Go.Proofs.YtgkbcgmcpbbneaaW.PrintLast Go.Proofs.YtgkbcgmcpbbneaaW.PrintMore
attribute [local go_sem] max2_int min2_int max_two min_two max_three min_three max_four min_four
set_option maxRecDepth 100000
set_option linter.unusedVariables false
set_option linter.unusedSimpArgs false
theorem QuAt.qb {w : World} {F : Nat → Prop} {qb mb : Nat} {vs vh : Value} {L : List Wt} {sn : List S46} {hp : List S63} (h : QuAt w F qb mb vs vh L sn hp) : QB w qb mb vs vh := h.blk
theorem push_ent (w : World) (F : Nat → Prop) (qb mb : Nat) (vs vh : Value) (hp : List S63) (L : List Wt) (sn : List S46) (c : S30) (hb : QB w qb mb vs vh) (hR : Kd.R k63 63 w 0 F vh hp) (hl : hp.length ≤ 1000000) :
    Calls Try.prog 30 #[.pointer (some ⟨qb, 2, none⟩), .agg #[.int .i64 (entryOf L sn c).f0, .int .i64 (entryOf L sn c).f1, .int .i64 c.f0, .int .i64 c.f1, .int .i64 c.f2]] w (PushPost w F qb mb vs vh (pushH hp (entryOf L sn c))) :=
  push_calls w F qb mb vs vh hp (entryOf L sn c) hb hR hl

set_option maxHeartbeats 8000000 in
theorem put_calls (w : World) (F : Nat → Prop) (qb mb : Nat) (vs vh : Value) (L : List Wt) (sn : List S46) (hp : List S63) (hQ : QuAt w F qb mb vs vh L sn hp) (c : S30) (hc : Wc c) (lvl : Int) (hn : Wf lvl) (hl : L.length ≤ 1000000) (hh : hp.length ≤ 1000000) (hs : sn.length ≤ 1000000) : Calls Try.prog 17 #[.pointer (some ⟨qb, 0, none⟩), .agg #[.int .i64 c.f0, .int .i64 c.f1, .int .i64 c.f2], .int .i64 lvl] w fun e w' => e = .returned (.tuple #[]) ∧ ∃ vh', QuAt w' (fun k => F k ∨ w.heap.size ≤ k) qb mb vs vh' (putL L c lvl) sn (pushH hp (entryOf (putL L c lvl) sn c)) ∧ Kp w w' (fun k => k = mb ∨ k = qb ∨ some k = vh.ownBlock) := by
  have hu61 := Try.underlying61
  have hu30 := Try.underlying30
  have HK : Aside0 (Kp w w (fun k => k = mb ∨ k = qb ∨ some k = vh.ownBlock)) := ⟨Kp.refl _ _⟩
  have HA := Aside0.mk hQ
  have HWC := Aside0.mk hc
  have HWN := Aside0.mk hn
  have HLM : Aside0 (L.length < maxLen) := ⟨by unfold maxLen; omega⟩
  have HHL := Aside0.mk hh
  have HSN := Aside0.mk hs
  clear hQ hc hn hl hh hs
  go_enter Try.func17, Try.ntmps17
  go_wp2_with ((with_reducible refine gate_dst (N := 4) rfl ?_); refine box_event ?hg (N := 4) ?hd (cs := #[(.int .i64 c.f0), (.int .i64 c.f1), (.int .i64 c.f2)]) (t := 30) ?hr ?_; (case hd => rfl); (case hg => rfl); (case hr => first | (go_simp; done) | (go_simp; rfl)); intro gc hg w1 hbox hb; have GEgc : Aside0 (w.heap.size ≤ gc) := ⟨by rw [hg]; exact HK.out.size⟩; have n0_ : Aside0 (Kp w w1 (fun k => k = mb ∨ k = qb ∨ some k = vh.ownBlock)) := ⟨(Kp.then_ HK.out (Kp.of_below hb (fun _ => False)) (fun _ h => h.elim))⟩; have n1_ : Aside0 (QuAt w1 F qb mb vs vh L sn hp) := ⟨(QuAt.below HA.out hb)⟩; clear HK HA; have HK := n0_; have HA := n1_; clear n0_ n1_; have BKgc : Aside0 (w1.heap[gc]? = some (.cells #[(.int .i64 c.f0), (.int .i64 c.f1), (.int .i64 c.f2)] 30 (0, 0))) := ⟨hbox⟩; clear hb hbox hg)
  refine start_ (n := 7) (S := fun w' => w'.cell? ⟨qb, 0, none⟩ = some (.map (some mb)) ∧ w'.cell? ⟨gc, 0, none⟩ = some ((.int .i64 c.f0)) ∧ w'.cell? ⟨gc, 1, none⟩ = some ((.int .i64 c.f1)) ∧ w'.cell? ⟨gc, 2, none⟩ = some ((.int .i64 c.f2))) (ds := [6]) #[false, false, false, false, false, false, false] (by kernel_rfl) rfl rfl ⟨(blk_cell HA.out.blk 0).trans rfl, (blk_cell BKgc.out 0).trans rfl, (blk_cell BKgc.out 1).trans rfl, (blk_cell BKgc.out 2).trans rfl⟩ (fun hHeld => ?_)
  refine pure_ (i := 0) (N := some 6) (v := ?_) (a' := ?_) #[true, false, false, false, false, false, false] rfl rfl (by kernel_rfl) (fun _ _ _ h => h) (Or.inl ⟨by rfl, ?_⟩) ?_ ?_
  rotate_left
  · intro w'
    go_simp
    with_reducible rfl
  rotate_left
  · simp only [Act.put, List.setIfInBounds_toArray, List.set_cons_zero, List.set_cons_succ, i64_w, i32_w]
    rfl
  refine pure_ (i := 1) (N := some 7) (v := ?_) (a' := ?_) #[true, true, false, false, false, false, false] rfl rfl (by kernel_rfl) (fun _ _ _ h => h) (Or.inl ⟨by rfl, ?_⟩) ?_ ?_
  rotate_left
  · intro w'
    go_simp
    with_reducible rfl
  rotate_left
  · simp only [Act.put, List.setIfInBounds_toArray, List.set_cons_zero, List.set_cons_succ, i64_w, i32_w]
    rfl
  refine pure_ (i := 2) (N := some 8) (v := ?_) (a' := ?_) #[true, true, true, false, false, false, false] rfl rfl (by kernel_rfl) (fun _ _ _ h => h) (Or.inl ⟨by rfl, ?_⟩) ?_ ?_
  rotate_left
  · intro w'
    go_simp
    with_reducible rfl
  rotate_left
  · simp only [Act.put, List.setIfInBounds_toArray, List.set_cons_zero, List.set_cons_succ, i64_w, i32_w]
    rfl
  refine pure_ (i := 5) (N := some 11) (v := ?_) (a' := ?_) #[true, true, true, false, false, true, false] rfl rfl (by kernel_rfl) (fun _ _ _ h => h) (Or.inl ⟨by rfl, ?_⟩) ?_ ?_
  rotate_left
  · intro w'
    go_simp
    with_reducible rfl
  rotate_left
  · simp only [Act.put, List.setIfInBounds_toArray, List.set_cons_zero, List.set_cons_succ, i64_w, i32_w]
    rfl
  refine take_ (i := 3) (N := some 9) (v := ?_) (a' := ?_) #[true, true, true, true, false, true, false] rfl rfl (by kernel_rfl) (fun _ _ _ h => h) (Or.inl ⟨by rfl, ?_⟩) hHeld ?_ ?_
  rotate_left
  · rintro w' ⟨s0, s1, s2, s3⟩
    go_simp
    with_reducible rfl
  rotate_left
  · simp only [Act.put, List.setIfInBounds_toArray, List.set_cons_zero, List.set_cons_succ, i64_w, i32_w]
    rfl
  refine take_ (i := 4) (N := some 10) (v := ?_) (a' := ?_) #[true, true, true, true, true, true, false] rfl rfl (by kernel_rfl) (fun _ _ _ h => h) (Or.inl ⟨by rfl, ?_⟩) hHeld ?_ ?_
  rotate_left
  · rintro w' ⟨s0, s1, s2, s3⟩
    go_simp
    with_reducible rfl
  rotate_left
  · simp only [Act.put, List.setIfInBounds_toArray, List.set_cons_zero, List.set_cons_succ, i64_w, i32_w]
    rfl
  refine last_ (i := 6) (N := none) #[true, true, true, true, true, true, true] rfl rfl (by kernel_rfl) (by decide) (fun K hK => ?_)
  obtain ⟨w3, hrun, hM3, hg3, hs3⟩ := MapAt.store (w := w1.drew) (HA.out.drew).map c HWC.out lvl HWN.out HLM.out
  have HM3 := Aside0.mk hM3
  have HG3 := Aside0.mk hg3
  clear hM3 hg3 hs3
  refine skip_ (w1 := w3) (by rfl) rfl (by simp [execOp, Act.eval, hrun, Result.andThen]) ?_
  clear hrun
  refine hK.out _ _ ?_
  clear hK K
  refine done_ (by kernel_rfl) ?_
  have n0_ : Aside0 (QuAt w3 F qb mb vs vh (putL L c lvl) sn hp) := ⟨QuAt.afterStore HA.out.drew HM3.out HG3.out⟩
  have hk1 : Kp w w1.drew (fun k => k = mb ∨ k = qb ∨ some k = vh.ownBlock) := Kp.drew HK.out
  have n1_ : Aside0 (Kp w w3 (fun k => k = mb ∨ k = qb ∨ some k = vh.ownBlock)) := ⟨hk1.then_ (Kp.of_grown (S := fun k => k = mb) HG3.out (fun k hk => (Option.some.inj hk).symm)) (fun k hk => .inl (.inl hk))⟩
  have hgm : gc ≠ mb := fun e => by
    obtain ⟨es, clock, hb⟩ := HA.out.map.obj
    have := BKgc.out
    rw [e, hb] at this
    cases this
  have n2_ : Aside0 (w3.heap[gc]? = some (.cells #[(.int .i64 c.f0), (.int .i64 c.f1), (.int .i64 c.f2)] 30 (0, 0))) := ⟨blk_grown (w := w1.drew) BKgc.out HG3.out (fun e => hgm (Option.some.inj e))⟩
  clear HA HK BKgc hk1 hgm HM3 HG3
  have HA := n0_
  have HK := n1_
  have BKgc := n2_
  clear n0_ n1_ n2_
  go_wp2
  refine start_ (n := 7) (S := fun w' => w'.cell? ⟨gc, 0, none⟩ = some ((.int .i64 c.f0)) ∧ w'.cell? ⟨gc, 1, none⟩ = some ((.int .i64 c.f1)) ∧ w'.cell? ⟨gc, 2, none⟩ = some ((.int .i64 c.f2))) (ds := [5, 6]) #[false, false, false, false, false, false, false] (by kernel_rfl) rfl rfl ⟨(blk_cell BKgc.out 0).trans rfl, (blk_cell BKgc.out 1).trans rfl, (blk_cell BKgc.out 2).trans rfl⟩ (fun hHeld => ?_)
  refine pure_ (i := 0) (N := some 12) (v := ?_) (a' := ?_) #[true, false, false, false, false, false, false] rfl rfl (by kernel_rfl) (fun _ _ _ h => h) (Or.inl ⟨by rfl, ?_⟩) ?_ ?_
  rotate_left
  · intro w'
    go_simp
    with_reducible rfl
  rotate_left
  · simp only [Act.put, List.setIfInBounds_toArray, List.set_cons_zero, List.set_cons_succ, i64_w, i32_w]
    rfl
  refine pure_ (i := 1) (N := some 13) (v := ?_) (a' := ?_) #[true, true, false, false, false, false, false] rfl rfl (by kernel_rfl) (fun _ _ _ h => h) (Or.inl ⟨by rfl, ?_⟩) ?_ ?_
  rotate_left
  · intro w'
    go_simp
    with_reducible rfl
  rotate_left
  · simp only [Act.put, List.setIfInBounds_toArray, List.set_cons_zero, List.set_cons_succ, i64_w, i32_w]
    rfl
  refine pure_ (i := 2) (N := some 14) (v := ?_) (a' := ?_) #[true, true, true, false, false, false, false] rfl rfl (by kernel_rfl) (fun _ _ _ h => h) (Or.inl ⟨by rfl, ?_⟩) ?_ ?_
  rotate_left
  · intro w'
    go_simp
    with_reducible rfl
  rotate_left
  · simp only [Act.put, List.setIfInBounds_toArray, List.set_cons_zero, List.set_cons_succ, i64_w, i32_w]
    rfl
  refine pure_ (i := 3) (N := some 15) (v := ?_) (a' := ?_) #[true, true, true, true, false, false, false] rfl rfl (by kernel_rfl) (fun _ _ _ h => h) (Or.inl ⟨by rfl, ?_⟩) ?_ ?_
  rotate_left
  · intro w'
    go_simp
    with_reducible rfl
  rotate_left
  · simp only [Act.put, List.setIfInBounds_toArray, List.set_cons_zero, List.set_cons_succ, i64_w, i32_w]
    rfl
  refine take_ (i := 4) (N := some 16) (v := ?_) (a' := ?_) #[true, true, true, true, true, false, false] rfl rfl (by kernel_rfl) (fun _ _ _ h => h) (Or.inl ⟨by rfl, ?_⟩) hHeld ?_ ?_
  rotate_left
  · rintro w' ⟨s0, s1, s2⟩
    go_simp
    with_reducible rfl
  rotate_left
  · simp only [Act.put, List.setIfInBounds_toArray, List.set_cons_zero, List.set_cons_succ, i64_w, i32_w]
    rfl
  refine last_ (i := 5) (N := some 17) #[true, true, true, true, true, true, false] rfl rfl (by kernel_rfl) (by decide) (fun K hK => ?_)
  refine goes_ Try.func26 (by kernel_rfl) rfl #[.pointer (some ⟨qb, 0, none⟩), .agg #[.int .i64 c.f0, .int .i64 c.f1, .int .i64 c.f2]] (by rfl) rfl rfl (by simp only [List.map_toArray, List.map_cons, List.map_nil]; rfl) ?_
  with_reducible refine (of_calls _ F qb mb vs vh (putL L c lvl) sn hp HA.out.drew c HWC.out HSN.out).mono ?_
  rintro e w5 ⟨rfl, hb⟩
  refine ⟨_, rfl, ?_⟩
  have HB5 := Aside0.mk hb
  clear hb
  refine hK.out _ _ ?_
  clear hK K
  refine norm_ (a' := ?_) ?_ ?_
  rotate_left
  · show Act.put _ (some 17) _ = _
    simp only [Act.put, List.setIfInBounds_toArray, List.set_cons_zero, List.set_cons_succ, i64_w, i32_w]
    rfl
  refine last_ (i := 6) (N := some 18) #[true, true, true, true, true, true, true] rfl rfl (by kernel_rfl) (by decide) (fun K hK => ?_)
  refine goes_ Try.func30 (by kernel_rfl) rfl #[.pointer (some ⟨qb, 2, none⟩), .agg #[.int .i64 (entryOf (putL L c lvl) sn c).f0, .int .i64 (entryOf (putL L c lvl) sn c).f1, .int .i64 c.f0, .int .i64 c.f1, .int .i64 c.f2]] (by rfl) rfl rfl (by simp only [List.map_toArray, List.map_cons, List.map_nil]; rfl) ?_
  with_reducible refine (push_ent w5 F qb mb vs vh hp (putL L c lvl) sn c (QuAt.qb (QuAt.below HA.out.drew HB5.out)) (QuAt.below HA.out.drew HB5.out).heap HHL.out).mono ?_
  rintro e w6 ⟨rfl, vh2, hq6, hr6, hk6⟩
  refine ⟨_, rfl, ?_⟩
  have HQ6 := Aside0.mk hq6
  have HR6 := Aside0.mk hr6
  have HK6 := Aside0.mk hk6
  clear hq6 hr6 hk6
  refine hK.out _ _ ?_
  clear hK K
  refine norm_ (a' := ?_) ?_ ?_
  rotate_left
  · show Act.put _ (some 18) _ = _
    simp only [Act.put, List.setIfInBounds_toArray, List.set_cons_zero, List.set_cons_succ, i64_w, i32_w]
    rfl
  refine done_ (by kernel_rfl) ?_
  go_wp2
  go_end0
  have h5 := QuAt.below HA.out.drew HB5.out
  have hk5 : Kp w w3.drew (fun k => k = mb ∨ k = qb ∨ some k = vh.ownBlock) := Kp.drew HK.out
  have hk7 := hk5.then_ (Kp.of_below HB5.out (fun _ => False)) (fun k hk => hk.elim)
  refine ⟨rfl, vh2, QuAt.afterHeap h5 HQ6.out (Kd.R_mono HR6.out (fun k hk => hk.imp id (fun h => Nat.le_trans hk7.size h))) HK6.out (fun k hk => .inl hk), hk7.then_ HK6.out (fun k hk => .inl (.inr hk))⟩
end Go.Proofs.Ytgkbcgmcpbbneaa.Q
