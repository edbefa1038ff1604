/- The walk of (*queue.Queue).of: a cell's entry. -/
import Derived.Test.YtgkbcgmcpbbneaaOf
namespace Go.Proofs.Ytgkbcgmcpbbneaa.Q
open Go Go.RowKit Go.Maps Go.Proofs.YtgkbcgmcpbbneaaW.PrintWords Go.Proofs.YtgkbcgmcpbbneaaW.PrintLast Go.Proofs.YtgkbcgmcpbbneaaW.PrintMore
attribute [local go_sem] max2_int min2_int max_two min_two max_three min_three max_four min_four
set_option maxRecDepth 100000
set_option linter.unusedVariables false
set_option linter.unusedSimpArgs false
theorem contains_calls_b (sn : List S46) (c : S30) (b : Bool) (hs : sn.any (fun a => hasA a c) = b) (cb : Nat) (A : Option Addr) (cp : Nat) (w : World) (hb : w.heap[cb]? = some (.cells #[.int .i64 c.f0, .int .i64 c.f1, .int .i64 c.f2] 30 (0, 0))) (hC : Kd.C k46 w A sn.length sn) (hl : sn.length ≤ 1000000) :
    Calls Try.prog 37 #[.slice A sn.length cp, .func (.func 38) #[] #[.pointer (some ⟨cb, 0, none⟩)]] w fun e w' => e = .returned (.bool b) ∧ Below w.heap.size w w' := by
  subst hs
  exact contains_calls sn c cb A cp w hb hC hl
def entryOf (L : List Wt) (sn : List S46) (c : S30) : S63 := ⟨if sn.any (fun a => hasA a c) then 0 else 1, (look L c).getD 0, c⟩

set_option maxHeartbeats 8000000 in
theorem of_calls (w : World) (F : Nat → Prop) (qb mb : Nat) (vs vh : Value) (L : List Wt) (sn : List S46) (hp : List S63) (hQ : QuAt w F qb mb vs vh L sn hp) (c : S30) (hc : Wc c) (hl : sn.length ≤ 1000000) :
    Calls Try.prog 26 #[.pointer (some ⟨qb, 0, none⟩), .agg #[.int .i64 c.f0, .int .i64 c.f1, .int .i64 c.f2]] w fun e w' => e = .returned (.agg #[.int .i64 (entryOf L sn c).f0, .int .i64 (entryOf L sn c).f1, .int .i64 c.f0, .int .i64 c.f1, .int .i64 c.f2]) ∧ Below w.heap.size w w' := by
  have hu63 := Try.underlying63
  have hu61 := Try.underlying61
  have hu30 := Try.underlying30
  obtain ⟨A, cp, rfl, hle, hC⟩ := Kd.R_reads hQ.seen
  have HB := Aside0.mk (Below.refl w.heap.size w)
  have BKq := Aside0.mk hQ.blk
  have HM := Aside0.mk hQ.map
  have HC := Aside0.mk hC
  have HLN := Aside0.mk hl
  have HWC := Aside0.mk hc
  clear hQ hC hle hl hc
  cases hs : sn.any (fun a => hasA a c) with
  | true =>
    have HS := Aside0.mk hs
    clear hs
    go_enter Try.func26, Try.ntmps26
    go_wp2_with (first | ((with_reducible refine gate_dst (N := 3) rfl ?_); refine box_event ?hg (N := 3) ?hd (cs := #[(.int .i64 c.f0), (.int .i64 c.f1), (.int .i64 c.f2)]) (t := 30) ?hr ?_; (case hd => rfl); (case hg => rfl); (case hr => first | (go_simp; done) | (go_simp; rfl)); intro gc hg w1 hbox hb; have GEgc : Aside0 (w.heap.size ≤ gc) := ⟨by rw [hg]; exact HB.out.size⟩; have n0_ : Aside0 (Below w.heap.size w w1) := ⟨(below_step HB.out hb)⟩; have n1_ : Aside0 (w1.heap[qb]? = some (.cells #[(.map (some mb)), (.slice A sn.length cp), vh, (.func (.func 28) #[] #[])] 61 (0, 0))) := ⟨(blk_below BKq.out hb)⟩; have n2_ : Aside0 (MapAt w1 mb L) := ⟨(MapAt.below HM.out hb)⟩; have n3_ : Aside0 (Kd.C k46 w1 A sn.length sn) := ⟨(Kd.C_below HC.out hb)⟩; clear HB BKq HM HC; have HB := n0_; have BKq := n1_; have HM := n2_; have HC := n3_; clear n0_ n1_ n2_ n3_; have BKgc : Aside0 (w1.heap[gc]? = some (.cells #[(.int .i64 c.f0), (.int .i64 c.f1), (.int .i64 c.f2)] 30 (0, 0))) := ⟨hbox⟩; clear hb hbox hg) | ((with_reducible refine gate_dst (N := 4) rfl ?_); refine box_event ?hg (N := 4) ?hd (cs := #[(.int .i64 0), (.int .i64 0), (.int .i64 0), (.int .i64 0), (.int .i64 0)]) (t := 63) ?hr ?_; (case hd => rfl); (case hg => rfl); (case hr => first | (go_simp; done) | (go_simp; rfl)); intro gr hg w2 hbox hb; have GEgr : Aside0 (w.heap.size ≤ gr) := ⟨by rw [hg]; exact HB.out.size⟩; have n0_ : Aside0 (Below w.heap.size w w2) := ⟨(below_step HB.out hb)⟩; have n1_ : Aside0 (w2.heap[qb]? = some (.cells #[(.map (some mb)), (.slice A sn.length cp), vh, (.func (.func 28) #[] #[])] 61 (0, 0))) := ⟨(blk_below BKq.out hb)⟩; have n2_ : Aside0 (MapAt w2 mb L) := ⟨(MapAt.below HM.out hb)⟩; have n3_ : Aside0 (Kd.C k46 w2 A sn.length sn) := ⟨(Kd.C_below HC.out hb)⟩; have n4_ : Aside0 (w2.heap[gc]? = some (.cells #[(.int .i64 c.f0), (.int .i64 c.f1), (.int .i64 c.f2)] 30 (0, 0))) := ⟨(blk_below BKgc.out hb)⟩; clear HB BKq HM HC BKgc; have HB := n0_; have BKq := n1_; have HM := n2_; have HC := n3_; have BKgc := n4_; clear n0_ n1_ n2_ n3_ n4_; have BKgr : Aside0 (w2.heap[gr]? = some (.cells #[(.int .i64 0), (.int .i64 0), (.int .i64 0), (.int .i64 0), (.int .i64 0)] 63 (0, 0))) := ⟨hbox⟩; clear hb hbox hg))
    refine start_ (n := 10) (S := fun w' => w'.cell? ⟨qb, 0, none⟩ = some (.map (some mb)) ∧ w'.cell? ⟨gc, 0, none⟩ = some ((.int .i64 c.f0)) ∧ w'.cell? ⟨gc, 1, none⟩ = some ((.int .i64 c.f1)) ∧ w'.cell? ⟨gc, 2, none⟩ = some ((.int .i64 c.f2)) ∧ (Instr.lookup 56 (.map (some mb)) (.agg #[.int .i64 c.f0, .int .i64 c.f1, .int .i64 c.f2]) false).run Try.prog w' = .ok (.int .i64 ((look L c).getD 0)) w') (ds := []) #[false, false, false, false, false, false, false, false, false, false] (by kernel_rfl) rfl rfl ⟨(blk_cell (blk_below BKq.out (by repeat (first | (with_reducible first | exact Below.refl _ _ | refine below_set ?_ (Nat.le_refl _) | apply below_alloc | apply below_drew1) | refine below_set ?_ (Nat.le_refl _)))) 0).trans rfl, (blk_cell (blk_below BKgc.out (by repeat (first | (with_reducible first | exact Below.refl _ _ | refine below_set ?_ (Nat.le_refl _) | apply below_alloc | apply below_drew1) | refine below_set ?_ (Nat.le_refl _)))) 0).trans rfl, (blk_cell (blk_below BKgc.out (by repeat (first | (with_reducible first | exact Below.refl _ _ | refine below_set ?_ (Nat.le_refl _) | apply below_alloc | apply below_drew1) | refine below_set ?_ (Nat.le_refl _)))) 1).trans rfl, (blk_cell (blk_below BKgc.out (by repeat (first | (with_reducible first | exact Below.refl _ _ | refine below_set ?_ (Nat.le_refl _) | apply below_alloc | apply below_drew1) | refine below_set ?_ (Nat.le_refl _)))) 2).trans rfl, (MapAt.below HM.out (by repeat (first | (with_reducible first | exact Below.refl _ _ | refine below_set ?_ (Nat.le_refl _) | apply below_alloc | apply below_drew1) | refine below_set ?_ (Nat.le_refl _)))).look1 c HWC.out⟩ (fun hHeld => ?_)
    refine pure_ (i := 0) (N := some 6) (v := ?_) (a' := ?_) #[true, false, false, false, false, false, false, false, false, false] rfl rfl (by kernel_rfl) (fun _ _ _ h => h) (Or.inl ⟨by rfl, ?_⟩) ?_ ?_
    rotate_left
    · intro w'
      go_simp
      with_reducible rfl
    rotate_left
    · simp only [Act.put, List.setIfInBounds_toArray, List.set_cons_zero, List.set_cons_succ, i64_w, i32_w]
      rfl
    refine pure_ (i := 1) (N := some 7) (v := ?_) (a' := ?_) #[true, true, false, false, false, false, false, false, false, false] rfl rfl (by kernel_rfl) (fun _ _ _ h => h) (Or.inl ⟨by rfl, ?_⟩) ?_ ?_
    rotate_left
    · intro w'
      go_simp
      with_reducible rfl
    rotate_left
    · simp only [Act.put, List.setIfInBounds_toArray, List.set_cons_zero, List.set_cons_succ, i64_w, i32_w]
      rfl
    refine pure_ (i := 2) (N := some 8) (v := ?_) (a' := ?_) #[true, true, true, false, false, false, false, false, false, false] rfl rfl (by kernel_rfl) (fun _ _ _ h => h) (Or.inl ⟨by rfl, ?_⟩) ?_ ?_
    rotate_left
    · intro w'
      go_simp
      with_reducible rfl
    rotate_left
    · simp only [Act.put, List.setIfInBounds_toArray, List.set_cons_zero, List.set_cons_succ, i64_w, i32_w]
      rfl
    refine take_ (i := 3) (N := some 9) (v := ?_) (a' := ?_) #[true, true, true, true, false, false, false, false, false, false] rfl rfl (by kernel_rfl) (fun _ _ _ h => h) (Or.inl ⟨by rfl, ?_⟩) hHeld ?_ ?_
    rotate_left
    · rintro w' ⟨s0, s1, s2, s3, s4⟩
      go_simp
      with_reducible rfl
    rotate_left
    · simp only [Act.put, List.setIfInBounds_toArray, List.set_cons_zero, List.set_cons_succ, i64_w, i32_w]
      rfl
    refine take_ (i := 4) (N := some 10) (v := ?_) (a' := ?_) #[true, true, true, true, true, false, false, false, false, false] rfl rfl (by kernel_rfl) (fun _ _ _ h => h) (Or.inl ⟨by rfl, ?_⟩) hHeld ?_ ?_
    rotate_left
    · rintro w' ⟨s0, s1, s2, s3, s4⟩
      go_simp
      with_reducible rfl
    rotate_left
    · simp only [Act.put, List.setIfInBounds_toArray, List.set_cons_zero, List.set_cons_succ, i64_w, i32_w]
      rfl
    refine take_ (i := 5) (N := some 11) (v := ?_) (a' := ?_) #[true, true, true, true, true, true, false, false, false, false] rfl rfl (by kernel_rfl) (fun _ _ _ h => h) (Or.inl ⟨by rfl, ?_⟩) hHeld ?_ ?_
    rotate_left
    · rintro w' ⟨s0, s1, s2, s3, s4⟩
      go_simp
      with_reducible rfl
    rotate_left
    · simp only [Act.put, List.setIfInBounds_toArray, List.set_cons_zero, List.set_cons_succ, i64_w, i32_w]
      rfl
    refine take_ (i := 6) (N := some 12) (v := ?_) (a' := ?_) #[true, true, true, true, true, true, true, false, false, false] rfl rfl (by kernel_rfl) (fun _ _ _ h => h) (Or.inl ⟨by rfl, ?_⟩) hHeld ?_ ?_
    rotate_left
    · rintro w' ⟨s0, s1, s2, s3, s4⟩
      go_simp
      with_reducible rfl
    rotate_left
    · simp only [Act.put, List.setIfInBounds_toArray, List.set_cons_zero, List.set_cons_succ, i64_w, i32_w]
      rfl
    refine pure_ (i := 7) (N := some 13) (v := ?_) (a' := ?_) #[true, true, true, true, true, true, true, true, false, false] rfl rfl (by kernel_rfl) (fun _ _ _ h => h) (Or.inl ⟨by rfl, ?_⟩) ?_ ?_
    rotate_left
    · intro w'
      go_simp
      with_reducible rfl
    rotate_left
    · simp only [Act.put, List.setIfInBounds_toArray, List.set_cons_zero, List.set_cons_succ, i64_w, i32_w]
      rfl
    refine one_ (i := 8) (N := some 5) #[true, true, true, true, true, true, true, true, true, false] rfl rfl (by kernel_rfl) (by decide) (fun K hK => ?_)
    refine value_ (w1 := ?_) (v := ?_) (by rfl) rfl ?_ ?_
    rotate_left 2
    · go_simp
      constructor
      · rfl
      · rfl
    refine hK.out _ _ ⟨(blk_cell (blk_below BKq.out (by repeat (first | (with_reducible first | exact Below.refl _ _ | refine below_set ?_ (Nat.le_refl _) | apply below_alloc | apply below_drew1) | refine below_set ?_ (Nat.le_refl _)))) 0).trans rfl, (blk_cell (blk_below BKgc.out (by repeat (first | (with_reducible first | exact Below.refl _ _ | refine below_set ?_ (Nat.le_refl _) | apply below_alloc | apply below_drew1) | refine below_set ?_ (Nat.le_refl _)))) 0).trans rfl, (blk_cell (blk_below BKgc.out (by repeat (first | (with_reducible first | exact Below.refl _ _ | refine below_set ?_ (Nat.le_refl _) | apply below_alloc | apply below_drew1) | refine below_set ?_ (Nat.le_refl _)))) 1).trans rfl, (blk_cell (blk_below BKgc.out (by repeat (first | (with_reducible first | exact Below.refl _ _ | refine below_set ?_ (Nat.le_refl _) | apply below_alloc | apply below_drew1) | refine below_set ?_ (Nat.le_refl _)))) 2).trans rfl, (MapAt.below HM.out (by repeat (first | (with_reducible first | exact Below.refl _ _ | refine below_set ?_ (Nat.le_refl _) | apply below_alloc | apply below_drew1) | refine below_set ?_ (Nat.le_refl _)))).look1 c HWC.out⟩ (fun hHeld => ?_)
    clear hK K
    refine norm_ (a' := ?_) ?_ ?_
    rotate_left
    · show Act.put _ (some 5) _ = _
      simp only [Act.put, List.setIfInBounds_toArray, List.set_cons_zero, List.set_cons_succ, i64_w, i32_w]
      rfl
    refine one_ (i := 9) (N := none) #[true, true, true, true, true, true, true, true, true, true] rfl rfl (by kernel_rfl) (by decide) (fun K hK => ?_)
    refine skip_ (w1 := ?_) (by rfl) rfl ?_ ?_
    rotate_left
    · go_simp
      rfl
    refine hK.out _ _ ⟨(blk_cell (blk_below BKq.out (by repeat (first | (with_reducible first | exact Below.refl _ _ | refine below_set ?_ (Nat.le_refl _) | apply below_alloc | apply below_drew1) | refine below_set ?_ (Nat.le_refl _)))) 0).trans rfl, (blk_cell (blk_below BKgc.out (by repeat (first | (with_reducible first | exact Below.refl _ _ | refine below_set ?_ (Nat.le_refl _) | apply below_alloc | apply below_drew1) | refine below_set ?_ (Nat.le_refl _)))) 0).trans rfl, (blk_cell (blk_below BKgc.out (by repeat (first | (with_reducible first | exact Below.refl _ _ | refine below_set ?_ (Nat.le_refl _) | apply below_alloc | apply below_drew1) | refine below_set ?_ (Nat.le_refl _)))) 1).trans rfl, (blk_cell (blk_below BKgc.out (by repeat (first | (with_reducible first | exact Below.refl _ _ | refine below_set ?_ (Nat.le_refl _) | apply below_alloc | apply below_drew1) | refine below_set ?_ (Nat.le_refl _)))) 2).trans rfl, (MapAt.below HM.out (by repeat (first | (with_reducible first | exact Below.refl _ _ | refine below_set ?_ (Nat.le_refl _) | apply below_alloc | apply below_drew1) | refine below_set ?_ (Nat.le_refl _)))).look1 c HWC.out⟩ (fun hHeld => ?_)
    clear hK K
    refine done_ (by kernel_rfl) ?_
    have HB2 := HB
    have BKgc2 := BKgc
    have BKgr2 := BKgr
    have n0_ : Aside0 (Below w.heap.size w ((w2.alloc (.cells #[(.int .i64 1), (.int .i64 ((look L c).getD 0)), (.int .i64 c.f0), (.int .i64 c.f1), (.int .i64 c.f2)] 63)).drew)) := ⟨(below_step HB.out (below_drew1 (below_alloc (Below.refl _ _) _)))⟩
    have n1_ : Aside0 (((w2.alloc (.cells #[(.int .i64 1), (.int .i64 ((look L c).getD 0)), (.int .i64 c.f0), (.int .i64 c.f1), (.int .i64 c.f2)] 63)).drew).heap[qb]? = some (.cells #[(.map (some mb)), (.slice A sn.length cp), vh, (.func (.func 28) #[] #[])] 61 (0, 0))) := ⟨(blk_below BKq.out (below_drew1 (below_alloc (Below.refl _ _) _)))⟩
    have n2_ : Aside0 (MapAt ((w2.alloc (.cells #[(.int .i64 1), (.int .i64 ((look L c).getD 0)), (.int .i64 c.f0), (.int .i64 c.f1), (.int .i64 c.f2)] 63)).drew) mb L) := ⟨(MapAt.below HM.out (below_drew1 (below_alloc (Below.refl _ _) _)))⟩
    have n3_ : Aside0 (Kd.C k46 ((w2.alloc (.cells #[(.int .i64 1), (.int .i64 ((look L c).getD 0)), (.int .i64 c.f0), (.int .i64 c.f1), (.int .i64 c.f2)] 63)).drew) A sn.length sn) := ⟨(Kd.C_below HC.out (below_drew1 (below_alloc (Below.refl _ _) _)))⟩
    have n4_ : Aside0 (((w2.alloc (.cells #[(.int .i64 1), (.int .i64 ((look L c).getD 0)), (.int .i64 c.f0), (.int .i64 c.f1), (.int .i64 c.f2)] 63)).drew).heap[gc]? = some (.cells #[(.int .i64 c.f0), (.int .i64 c.f1), (.int .i64 c.f2)] 30 (0, 0))) := ⟨(blk_below BKgc.out (below_drew1 (below_alloc (Below.refl _ _) _)))⟩
    have n5_ : Aside0 (((w2.alloc (.cells #[(.int .i64 1), (.int .i64 ((look L c).getD 0)), (.int .i64 c.f0), (.int .i64 c.f1), (.int .i64 c.f2)] 63)).drew).heap[gr]? = some (.cells #[(.int .i64 0), (.int .i64 0), (.int .i64 0), (.int .i64 0), (.int .i64 0)] 63 (0, 0))) := ⟨(blk_below BKgr.out (below_drew1 (below_alloc (Below.refl _ _) _)))⟩
    clear HB BKq HM HC BKgc BKgr
    have HB := n0_
    have BKq := n1_
    have HM := n2_
    have HC := n3_
    have BKgc := n4_
    have BKgr := n5_
    clear n0_ n1_ n2_ n3_ n4_ n5_
    have BKe : Aside0 (((w2.alloc (.cells #[(.int .i64 1), (.int .i64 ((look L c).getD 0)), (.int .i64 c.f0), (.int .i64 c.f1), (.int .i64 c.f2)] 63)).drew).heap[w2.heap.size]? = some (.cells #[(.int .i64 1), (.int .i64 ((look L c).getD 0)), (.int .i64 c.f0), (.int .i64 c.f1), (.int .i64 c.f2)] 63 (0, 0))) := ⟨blk_new w2 _⟩
    have GEe : Aside0 (w.heap.size ≤ w2.heap.size ∧ gc ≠ w2.heap.size ∧ gr ≠ w2.heap.size) := ⟨⟨HB2.out.size, Nat.ne_of_lt (blk_lt BKgc2.out), Nat.ne_of_lt (blk_lt BKgr2.out)⟩⟩
    clear HB2 BKgc2 BKgr2
    generalize hge : w2.heap.size = ge at BKe GEe ⊢
    clear hge
    generalize ((w2.alloc (.cells #[(.int .i64 1), (.int .i64 ((look L c).getD 0)), (.int .i64 c.f0), (.int .i64 c.f1), (.int .i64 c.f2)] 63)).drew) = w3 at HB BKq HM HC BKgc BKgr BKe ⊢
    have hzBKq_0 : w3.cell? ⟨qb, 0, none⟩ = some ((.map (some mb))) := (blk_cell BKq.out 0).trans rfl
    have hfBKq_0 := blk_frozen BKq.out 0
    have hzBKq_1 : w3.cell? ⟨qb, 1, none⟩ = some ((.slice A sn.length cp)) := (blk_cell BKq.out 1).trans rfl
    have hfBKq_1 := blk_frozen BKq.out 1
    have hzBKq_2 : w3.cell? ⟨qb, 2, none⟩ = some (vh) := (blk_cell BKq.out 2).trans rfl
    have hfBKq_2 := blk_frozen BKq.out 2
    have hzBKq_3 : w3.cell? ⟨qb, 3, none⟩ = some ((.func (.func 28) #[] #[])) := (blk_cell BKq.out 3).trans rfl
    have hfBKq_3 := blk_frozen BKq.out 3
    have hce : ge ≠ gr := fun e => GEe.out.2.2 e.symm
    have hne : gr ≠ ge := GEe.out.2.2
    go_wp2_with (go_at_call 37; (with_reducible refine (contains_calls_b sn c true HS.out gc A cp _ BKgc.out HC.out HLN.out).mono ?_); rintro e w4 ⟨rfl, hb⟩; (try clear hzBKq_0); (try clear hfBKq_0); (try clear hzBKq_1); (try clear hfBKq_1); (try clear hzBKq_2); (try clear hfBKq_2); (try clear hzBKq_3); (try clear hfBKq_3); have n0_ : Aside0 (Below w.heap.size w w4) := ⟨(below_step HB.out hb)⟩; have n1_ : Aside0 (w4.heap[qb]? = some (.cells #[(.map (some mb)), (.slice A sn.length cp), vh, (.func (.func 28) #[] #[])] 61 (0, 0))) := ⟨(blk_below BKq.out hb)⟩; have n2_ : Aside0 (MapAt w4 mb L) := ⟨(MapAt.below HM.out hb)⟩; have n3_ : Aside0 (Kd.C k46 w4 A sn.length sn) := ⟨(Kd.C_below HC.out hb)⟩; have n4_ : Aside0 (w4.heap[gc]? = some (.cells #[(.int .i64 c.f0), (.int .i64 c.f1), (.int .i64 c.f2)] 30 (0, 0))) := ⟨(blk_below BKgc.out hb)⟩; have n5_ : Aside0 (w4.heap[gr]? = some (.cells #[(.int .i64 0), (.int .i64 0), (.int .i64 0), (.int .i64 0), (.int .i64 0)] 63 (0, 0))) := ⟨(blk_below BKgr.out hb)⟩; have n6_ : Aside0 (w4.heap[ge]? = some (.cells #[(.int .i64 1), (.int .i64 ((look L c).getD 0)), (.int .i64 c.f0), (.int .i64 c.f1), (.int .i64 c.f2)] 63 (0, 0))) := ⟨(blk_below BKe.out hb)⟩; clear HB BKq HM HC BKgc BKgr BKe; have HB := n0_; have BKq := n1_; have HM := n2_; have HC := n3_; have BKgc := n4_; have BKgr := n5_; have BKe := n6_; clear n0_ n1_ n2_ n3_ n4_ n5_ n6_; clear hb; have hzBKgr_0 : w4.cell? ⟨gr, 0, none⟩ = some ((.int .i64 0)) := (blk_cell BKgr.out 0).trans rfl; have hfBKgr_0 := blk_frozen BKgr.out 0; have hzBKgr_1 : w4.cell? ⟨gr, 1, none⟩ = some ((.int .i64 0)) := (blk_cell BKgr.out 1).trans rfl; have hfBKgr_1 := blk_frozen BKgr.out 1; have hzBKgr_2 : w4.cell? ⟨gr, 2, none⟩ = some ((.int .i64 0)) := (blk_cell BKgr.out 2).trans rfl; have hfBKgr_2 := blk_frozen BKgr.out 2; have hzBKgr_3 : w4.cell? ⟨gr, 3, none⟩ = some ((.int .i64 0)) := (blk_cell BKgr.out 3).trans rfl; have hfBKgr_3 := blk_frozen BKgr.out 3; have hzBKgr_4 : w4.cell? ⟨gr, 4, none⟩ = some ((.int .i64 0)) := (blk_cell BKgr.out 4).trans rfl; have hfBKgr_4 := blk_frozen BKgr.out 4; have hzBKe_0 : w4.cell? ⟨ge, 0, none⟩ = some ((.int .i64 1)) := (blk_cell BKe.out 0).trans rfl; have hfBKe_0 := blk_frozen BKe.out 0; have hzBKe_1 : w4.cell? ⟨ge, 1, none⟩ = some ((.int .i64 ((look L c).getD 0))) := (blk_cell BKe.out 1).trans rfl; have hfBKe_1 := blk_frozen BKe.out 1; have hzBKe_2 : w4.cell? ⟨ge, 2, none⟩ = some ((.int .i64 c.f0)) := (blk_cell BKe.out 2).trans rfl; have hfBKe_2 := blk_frozen BKe.out 2; have hzBKe_3 : w4.cell? ⟨ge, 3, none⟩ = some ((.int .i64 c.f1)) := (blk_cell BKe.out 3).trans rfl; have hfBKe_3 := blk_frozen BKe.out 3; have hzBKe_4 : w4.cell? ⟨ge, 4, none⟩ = some ((.int .i64 c.f2)) := (blk_cell BKe.out 4).trans rfl; have hfBKe_4 := blk_frozen BKe.out 4)
    refine bodyPost_ret (results_cell_row rfl _ _ gr 63 #[(.int .i64 0), (.int .i64 ((look L c).getD 0)), (.int .i64 c.f0), (.int .i64 c.f1), (.int .i64 c.f2)] (0, 0) _ rfl (by refine blk_put (cs := #[(.int .i64 0), (.int .i64 ((look L c).getD 0)), (.int .i64 c.f0), (.int .i64 c.f1), (.int .i64 0)]) ?_ 4 _ rfl; refine blk_put (cs := #[(.int .i64 0), (.int .i64 ((look L c).getD 0)), (.int .i64 c.f0), (.int .i64 0), (.int .i64 0)]) ?_ 3 _ rfl; refine blk_put (cs := #[(.int .i64 0), (.int .i64 ((look L c).getD 0)), (.int .i64 0), (.int .i64 0), (.int .i64 0)]) ?_ 2 _ rfl; refine blk_put (cs := #[(.int .i64 0), (.int .i64 0), (.int .i64 0), (.int .i64 0), (.int .i64 0)]) ?_ 1 _ rfl; refine blk_put (cs := #[(.int .i64 0), (.int .i64 0), (.int .i64 0), (.int .i64 0), (.int .i64 0)]) ?_ 0 _ rfl; exact blk_far BKgr.out hne _) Try.underlying63 rfl (by kernel_rfl)) rfl ?_
    refine ⟨?_, ?_⟩
    · show Ending.returned (.agg #[(.int .i64 0), (.int .i64 ((look L c).getD 0)), (.int .i64 c.f0), (.int .i64 c.f1), (.int .i64 c.f2)]) = _
      unfold entryOf
      rw [HS.out]
      rfl
    · exact below_set (below_set (below_set (below_set (below_set (below_set HB.out GEe.out.1) GEgr.out) GEgr.out) GEgr.out) GEgr.out) GEgr.out
  | false =>
    have HS := Aside0.mk hs
    clear hs
    go_enter Try.func26, Try.ntmps26
    go_wp2_with (first | ((with_reducible refine gate_dst (N := 3) rfl ?_); refine box_event ?hg (N := 3) ?hd (cs := #[(.int .i64 c.f0), (.int .i64 c.f1), (.int .i64 c.f2)]) (t := 30) ?hr ?_; (case hd => rfl); (case hg => rfl); (case hr => first | (go_simp; done) | (go_simp; rfl)); intro gc hg w1 hbox hb; have GEgc : Aside0 (w.heap.size ≤ gc) := ⟨by rw [hg]; exact HB.out.size⟩; have n0_ : Aside0 (Below w.heap.size w w1) := ⟨(below_step HB.out hb)⟩; have n1_ : Aside0 (w1.heap[qb]? = some (.cells #[(.map (some mb)), (.slice A sn.length cp), vh, (.func (.func 28) #[] #[])] 61 (0, 0))) := ⟨(blk_below BKq.out hb)⟩; have n2_ : Aside0 (MapAt w1 mb L) := ⟨(MapAt.below HM.out hb)⟩; have n3_ : Aside0 (Kd.C k46 w1 A sn.length sn) := ⟨(Kd.C_below HC.out hb)⟩; clear HB BKq HM HC; have HB := n0_; have BKq := n1_; have HM := n2_; have HC := n3_; clear n0_ n1_ n2_ n3_; have BKgc : Aside0 (w1.heap[gc]? = some (.cells #[(.int .i64 c.f0), (.int .i64 c.f1), (.int .i64 c.f2)] 30 (0, 0))) := ⟨hbox⟩; clear hb hbox hg) | ((with_reducible refine gate_dst (N := 4) rfl ?_); refine box_event ?hg (N := 4) ?hd (cs := #[(.int .i64 0), (.int .i64 0), (.int .i64 0), (.int .i64 0), (.int .i64 0)]) (t := 63) ?hr ?_; (case hd => rfl); (case hg => rfl); (case hr => first | (go_simp; done) | (go_simp; rfl)); intro gr hg w2 hbox hb; have GEgr : Aside0 (w.heap.size ≤ gr) := ⟨by rw [hg]; exact HB.out.size⟩; have n0_ : Aside0 (Below w.heap.size w w2) := ⟨(below_step HB.out hb)⟩; have n1_ : Aside0 (w2.heap[qb]? = some (.cells #[(.map (some mb)), (.slice A sn.length cp), vh, (.func (.func 28) #[] #[])] 61 (0, 0))) := ⟨(blk_below BKq.out hb)⟩; have n2_ : Aside0 (MapAt w2 mb L) := ⟨(MapAt.below HM.out hb)⟩; have n3_ : Aside0 (Kd.C k46 w2 A sn.length sn) := ⟨(Kd.C_below HC.out hb)⟩; have n4_ : Aside0 (w2.heap[gc]? = some (.cells #[(.int .i64 c.f0), (.int .i64 c.f1), (.int .i64 c.f2)] 30 (0, 0))) := ⟨(blk_below BKgc.out hb)⟩; clear HB BKq HM HC BKgc; have HB := n0_; have BKq := n1_; have HM := n2_; have HC := n3_; have BKgc := n4_; clear n0_ n1_ n2_ n3_ n4_; have BKgr : Aside0 (w2.heap[gr]? = some (.cells #[(.int .i64 0), (.int .i64 0), (.int .i64 0), (.int .i64 0), (.int .i64 0)] 63 (0, 0))) := ⟨hbox⟩; clear hb hbox hg))
    refine start_ (n := 10) (S := fun w' => w'.cell? ⟨qb, 0, none⟩ = some (.map (some mb)) ∧ w'.cell? ⟨gc, 0, none⟩ = some ((.int .i64 c.f0)) ∧ w'.cell? ⟨gc, 1, none⟩ = some ((.int .i64 c.f1)) ∧ w'.cell? ⟨gc, 2, none⟩ = some ((.int .i64 c.f2)) ∧ (Instr.lookup 56 (.map (some mb)) (.agg #[.int .i64 c.f0, .int .i64 c.f1, .int .i64 c.f2]) false).run Try.prog w' = .ok (.int .i64 ((look L c).getD 0)) w') (ds := []) #[false, false, false, false, false, false, false, false, false, false] (by kernel_rfl) rfl rfl ⟨(blk_cell (blk_below BKq.out (by repeat (first | (with_reducible first | exact Below.refl _ _ | refine below_set ?_ (Nat.le_refl _) | apply below_alloc | apply below_drew1) | refine below_set ?_ (Nat.le_refl _)))) 0).trans rfl, (blk_cell (blk_below BKgc.out (by repeat (first | (with_reducible first | exact Below.refl _ _ | refine below_set ?_ (Nat.le_refl _) | apply below_alloc | apply below_drew1) | refine below_set ?_ (Nat.le_refl _)))) 0).trans rfl, (blk_cell (blk_below BKgc.out (by repeat (first | (with_reducible first | exact Below.refl _ _ | refine below_set ?_ (Nat.le_refl _) | apply below_alloc | apply below_drew1) | refine below_set ?_ (Nat.le_refl _)))) 1).trans rfl, (blk_cell (blk_below BKgc.out (by repeat (first | (with_reducible first | exact Below.refl _ _ | refine below_set ?_ (Nat.le_refl _) | apply below_alloc | apply below_drew1) | refine below_set ?_ (Nat.le_refl _)))) 2).trans rfl, (MapAt.below HM.out (by repeat (first | (with_reducible first | exact Below.refl _ _ | refine below_set ?_ (Nat.le_refl _) | apply below_alloc | apply below_drew1) | refine below_set ?_ (Nat.le_refl _)))).look1 c HWC.out⟩ (fun hHeld => ?_)
    refine pure_ (i := 0) (N := some 6) (v := ?_) (a' := ?_) #[true, false, false, false, false, false, false, false, false, false] rfl rfl (by kernel_rfl) (fun _ _ _ h => h) (Or.inl ⟨by rfl, ?_⟩) ?_ ?_
    rotate_left
    · intro w'
      go_simp
      with_reducible rfl
    rotate_left
    · simp only [Act.put, List.setIfInBounds_toArray, List.set_cons_zero, List.set_cons_succ, i64_w, i32_w]
      rfl
    refine pure_ (i := 1) (N := some 7) (v := ?_) (a' := ?_) #[true, true, false, false, false, false, false, false, false, false] rfl rfl (by kernel_rfl) (fun _ _ _ h => h) (Or.inl ⟨by rfl, ?_⟩) ?_ ?_
    rotate_left
    · intro w'
      go_simp
      with_reducible rfl
    rotate_left
    · simp only [Act.put, List.setIfInBounds_toArray, List.set_cons_zero, List.set_cons_succ, i64_w, i32_w]
      rfl
    refine pure_ (i := 2) (N := some 8) (v := ?_) (a' := ?_) #[true, true, true, false, false, false, false, false, false, false] rfl rfl (by kernel_rfl) (fun _ _ _ h => h) (Or.inl ⟨by rfl, ?_⟩) ?_ ?_
    rotate_left
    · intro w'
      go_simp
      with_reducible rfl
    rotate_left
    · simp only [Act.put, List.setIfInBounds_toArray, List.set_cons_zero, List.set_cons_succ, i64_w, i32_w]
      rfl
    refine take_ (i := 3) (N := some 9) (v := ?_) (a' := ?_) #[true, true, true, true, false, false, false, false, false, false] rfl rfl (by kernel_rfl) (fun _ _ _ h => h) (Or.inl ⟨by rfl, ?_⟩) hHeld ?_ ?_
    rotate_left
    · rintro w' ⟨s0, s1, s2, s3, s4⟩
      go_simp
      with_reducible rfl
    rotate_left
    · simp only [Act.put, List.setIfInBounds_toArray, List.set_cons_zero, List.set_cons_succ, i64_w, i32_w]
      rfl
    refine take_ (i := 4) (N := some 10) (v := ?_) (a' := ?_) #[true, true, true, true, true, false, false, false, false, false] rfl rfl (by kernel_rfl) (fun _ _ _ h => h) (Or.inl ⟨by rfl, ?_⟩) hHeld ?_ ?_
    rotate_left
    · rintro w' ⟨s0, s1, s2, s3, s4⟩
      go_simp
      with_reducible rfl
    rotate_left
    · simp only [Act.put, List.setIfInBounds_toArray, List.set_cons_zero, List.set_cons_succ, i64_w, i32_w]
      rfl
    refine take_ (i := 5) (N := some 11) (v := ?_) (a' := ?_) #[true, true, true, true, true, true, false, false, false, false] rfl rfl (by kernel_rfl) (fun _ _ _ h => h) (Or.inl ⟨by rfl, ?_⟩) hHeld ?_ ?_
    rotate_left
    · rintro w' ⟨s0, s1, s2, s3, s4⟩
      go_simp
      with_reducible rfl
    rotate_left
    · simp only [Act.put, List.setIfInBounds_toArray, List.set_cons_zero, List.set_cons_succ, i64_w, i32_w]
      rfl
    refine take_ (i := 6) (N := some 12) (v := ?_) (a' := ?_) #[true, true, true, true, true, true, true, false, false, false] rfl rfl (by kernel_rfl) (fun _ _ _ h => h) (Or.inl ⟨by rfl, ?_⟩) hHeld ?_ ?_
    rotate_left
    · rintro w' ⟨s0, s1, s2, s3, s4⟩
      go_simp
      with_reducible rfl
    rotate_left
    · simp only [Act.put, List.setIfInBounds_toArray, List.set_cons_zero, List.set_cons_succ, i64_w, i32_w]
      rfl
    refine pure_ (i := 7) (N := some 13) (v := ?_) (a' := ?_) #[true, true, true, true, true, true, true, true, false, false] rfl rfl (by kernel_rfl) (fun _ _ _ h => h) (Or.inl ⟨by rfl, ?_⟩) ?_ ?_
    rotate_left
    · intro w'
      go_simp
      with_reducible rfl
    rotate_left
    · simp only [Act.put, List.setIfInBounds_toArray, List.set_cons_zero, List.set_cons_succ, i64_w, i32_w]
      rfl
    refine one_ (i := 8) (N := some 5) #[true, true, true, true, true, true, true, true, true, false] rfl rfl (by kernel_rfl) (by decide) (fun K hK => ?_)
    refine value_ (w1 := ?_) (v := ?_) (by rfl) rfl ?_ ?_
    rotate_left 2
    · go_simp
      constructor
      · rfl
      · rfl
    refine hK.out _ _ ⟨(blk_cell (blk_below BKq.out (by repeat (first | (with_reducible first | exact Below.refl _ _ | refine below_set ?_ (Nat.le_refl _) | apply below_alloc | apply below_drew1) | refine below_set ?_ (Nat.le_refl _)))) 0).trans rfl, (blk_cell (blk_below BKgc.out (by repeat (first | (with_reducible first | exact Below.refl _ _ | refine below_set ?_ (Nat.le_refl _) | apply below_alloc | apply below_drew1) | refine below_set ?_ (Nat.le_refl _)))) 0).trans rfl, (blk_cell (blk_below BKgc.out (by repeat (first | (with_reducible first | exact Below.refl _ _ | refine below_set ?_ (Nat.le_refl _) | apply below_alloc | apply below_drew1) | refine below_set ?_ (Nat.le_refl _)))) 1).trans rfl, (blk_cell (blk_below BKgc.out (by repeat (first | (with_reducible first | exact Below.refl _ _ | refine below_set ?_ (Nat.le_refl _) | apply below_alloc | apply below_drew1) | refine below_set ?_ (Nat.le_refl _)))) 2).trans rfl, (MapAt.below HM.out (by repeat (first | (with_reducible first | exact Below.refl _ _ | refine below_set ?_ (Nat.le_refl _) | apply below_alloc | apply below_drew1) | refine below_set ?_ (Nat.le_refl _)))).look1 c HWC.out⟩ (fun hHeld => ?_)
    clear hK K
    refine norm_ (a' := ?_) ?_ ?_
    rotate_left
    · show Act.put _ (some 5) _ = _
      simp only [Act.put, List.setIfInBounds_toArray, List.set_cons_zero, List.set_cons_succ, i64_w, i32_w]
      rfl
    refine one_ (i := 9) (N := none) #[true, true, true, true, true, true, true, true, true, true] rfl rfl (by kernel_rfl) (by decide) (fun K hK => ?_)
    refine skip_ (w1 := ?_) (by rfl) rfl ?_ ?_
    rotate_left
    · go_simp
      rfl
    refine hK.out _ _ ⟨(blk_cell (blk_below BKq.out (by repeat (first | (with_reducible first | exact Below.refl _ _ | refine below_set ?_ (Nat.le_refl _) | apply below_alloc | apply below_drew1) | refine below_set ?_ (Nat.le_refl _)))) 0).trans rfl, (blk_cell (blk_below BKgc.out (by repeat (first | (with_reducible first | exact Below.refl _ _ | refine below_set ?_ (Nat.le_refl _) | apply below_alloc | apply below_drew1) | refine below_set ?_ (Nat.le_refl _)))) 0).trans rfl, (blk_cell (blk_below BKgc.out (by repeat (first | (with_reducible first | exact Below.refl _ _ | refine below_set ?_ (Nat.le_refl _) | apply below_alloc | apply below_drew1) | refine below_set ?_ (Nat.le_refl _)))) 1).trans rfl, (blk_cell (blk_below BKgc.out (by repeat (first | (with_reducible first | exact Below.refl _ _ | refine below_set ?_ (Nat.le_refl _) | apply below_alloc | apply below_drew1) | refine below_set ?_ (Nat.le_refl _)))) 2).trans rfl, (MapAt.below HM.out (by repeat (first | (with_reducible first | exact Below.refl _ _ | refine below_set ?_ (Nat.le_refl _) | apply below_alloc | apply below_drew1) | refine below_set ?_ (Nat.le_refl _)))).look1 c HWC.out⟩ (fun hHeld => ?_)
    clear hK K
    refine done_ (by kernel_rfl) ?_
    have HB2 := HB
    have BKgc2 := BKgc
    have BKgr2 := BKgr
    have n0_ : Aside0 (Below w.heap.size w ((w2.alloc (.cells #[(.int .i64 1), (.int .i64 ((look L c).getD 0)), (.int .i64 c.f0), (.int .i64 c.f1), (.int .i64 c.f2)] 63)).drew)) := ⟨(below_step HB.out (below_drew1 (below_alloc (Below.refl _ _) _)))⟩
    have n1_ : Aside0 (((w2.alloc (.cells #[(.int .i64 1), (.int .i64 ((look L c).getD 0)), (.int .i64 c.f0), (.int .i64 c.f1), (.int .i64 c.f2)] 63)).drew).heap[qb]? = some (.cells #[(.map (some mb)), (.slice A sn.length cp), vh, (.func (.func 28) #[] #[])] 61 (0, 0))) := ⟨(blk_below BKq.out (below_drew1 (below_alloc (Below.refl _ _) _)))⟩
    have n2_ : Aside0 (MapAt ((w2.alloc (.cells #[(.int .i64 1), (.int .i64 ((look L c).getD 0)), (.int .i64 c.f0), (.int .i64 c.f1), (.int .i64 c.f2)] 63)).drew) mb L) := ⟨(MapAt.below HM.out (below_drew1 (below_alloc (Below.refl _ _) _)))⟩
    have n3_ : Aside0 (Kd.C k46 ((w2.alloc (.cells #[(.int .i64 1), (.int .i64 ((look L c).getD 0)), (.int .i64 c.f0), (.int .i64 c.f1), (.int .i64 c.f2)] 63)).drew) A sn.length sn) := ⟨(Kd.C_below HC.out (below_drew1 (below_alloc (Below.refl _ _) _)))⟩
    have n4_ : Aside0 (((w2.alloc (.cells #[(.int .i64 1), (.int .i64 ((look L c).getD 0)), (.int .i64 c.f0), (.int .i64 c.f1), (.int .i64 c.f2)] 63)).drew).heap[gc]? = some (.cells #[(.int .i64 c.f0), (.int .i64 c.f1), (.int .i64 c.f2)] 30 (0, 0))) := ⟨(blk_below BKgc.out (below_drew1 (below_alloc (Below.refl _ _) _)))⟩
    have n5_ : Aside0 (((w2.alloc (.cells #[(.int .i64 1), (.int .i64 ((look L c).getD 0)), (.int .i64 c.f0), (.int .i64 c.f1), (.int .i64 c.f2)] 63)).drew).heap[gr]? = some (.cells #[(.int .i64 0), (.int .i64 0), (.int .i64 0), (.int .i64 0), (.int .i64 0)] 63 (0, 0))) := ⟨(blk_below BKgr.out (below_drew1 (below_alloc (Below.refl _ _) _)))⟩
    clear HB BKq HM HC BKgc BKgr
    have HB := n0_
    have BKq := n1_
    have HM := n2_
    have HC := n3_
    have BKgc := n4_
    have BKgr := n5_
    clear n0_ n1_ n2_ n3_ n4_ n5_
    have BKe : Aside0 (((w2.alloc (.cells #[(.int .i64 1), (.int .i64 ((look L c).getD 0)), (.int .i64 c.f0), (.int .i64 c.f1), (.int .i64 c.f2)] 63)).drew).heap[w2.heap.size]? = some (.cells #[(.int .i64 1), (.int .i64 ((look L c).getD 0)), (.int .i64 c.f0), (.int .i64 c.f1), (.int .i64 c.f2)] 63 (0, 0))) := ⟨blk_new w2 _⟩
    have GEe : Aside0 (w.heap.size ≤ w2.heap.size ∧ gc ≠ w2.heap.size ∧ gr ≠ w2.heap.size) := ⟨⟨HB2.out.size, Nat.ne_of_lt (blk_lt BKgc2.out), Nat.ne_of_lt (blk_lt BKgr2.out)⟩⟩
    clear HB2 BKgc2 BKgr2
    generalize hge : w2.heap.size = ge at BKe GEe ⊢
    clear hge
    generalize ((w2.alloc (.cells #[(.int .i64 1), (.int .i64 ((look L c).getD 0)), (.int .i64 c.f0), (.int .i64 c.f1), (.int .i64 c.f2)] 63)).drew) = w3 at HB BKq HM HC BKgc BKgr BKe ⊢
    have hzBKq_0 : w3.cell? ⟨qb, 0, none⟩ = some ((.map (some mb))) := (blk_cell BKq.out 0).trans rfl
    have hfBKq_0 := blk_frozen BKq.out 0
    have hzBKq_1 : w3.cell? ⟨qb, 1, none⟩ = some ((.slice A sn.length cp)) := (blk_cell BKq.out 1).trans rfl
    have hfBKq_1 := blk_frozen BKq.out 1
    have hzBKq_2 : w3.cell? ⟨qb, 2, none⟩ = some (vh) := (blk_cell BKq.out 2).trans rfl
    have hfBKq_2 := blk_frozen BKq.out 2
    have hzBKq_3 : w3.cell? ⟨qb, 3, none⟩ = some ((.func (.func 28) #[] #[])) := (blk_cell BKq.out 3).trans rfl
    have hfBKq_3 := blk_frozen BKq.out 3
    have hce : ge ≠ gr := fun e => GEe.out.2.2 e.symm
    have hne : gr ≠ ge := GEe.out.2.2
    go_wp2_with (go_at_call 37; (with_reducible refine (contains_calls_b sn c false HS.out gc A cp _ BKgc.out HC.out HLN.out).mono ?_); rintro e w4 ⟨rfl, hb⟩; (try clear hzBKq_0); (try clear hfBKq_0); (try clear hzBKq_1); (try clear hfBKq_1); (try clear hzBKq_2); (try clear hfBKq_2); (try clear hzBKq_3); (try clear hfBKq_3); have n0_ : Aside0 (Below w.heap.size w w4) := ⟨(below_step HB.out hb)⟩; have n1_ : Aside0 (w4.heap[qb]? = some (.cells #[(.map (some mb)), (.slice A sn.length cp), vh, (.func (.func 28) #[] #[])] 61 (0, 0))) := ⟨(blk_below BKq.out hb)⟩; have n2_ : Aside0 (MapAt w4 mb L) := ⟨(MapAt.below HM.out hb)⟩; have n3_ : Aside0 (Kd.C k46 w4 A sn.length sn) := ⟨(Kd.C_below HC.out hb)⟩; have n4_ : Aside0 (w4.heap[gc]? = some (.cells #[(.int .i64 c.f0), (.int .i64 c.f1), (.int .i64 c.f2)] 30 (0, 0))) := ⟨(blk_below BKgc.out hb)⟩; have n5_ : Aside0 (w4.heap[gr]? = some (.cells #[(.int .i64 0), (.int .i64 0), (.int .i64 0), (.int .i64 0), (.int .i64 0)] 63 (0, 0))) := ⟨(blk_below BKgr.out hb)⟩; have n6_ : Aside0 (w4.heap[ge]? = some (.cells #[(.int .i64 1), (.int .i64 ((look L c).getD 0)), (.int .i64 c.f0), (.int .i64 c.f1), (.int .i64 c.f2)] 63 (0, 0))) := ⟨(blk_below BKe.out hb)⟩; clear HB BKq HM HC BKgc BKgr BKe; have HB := n0_; have BKq := n1_; have HM := n2_; have HC := n3_; have BKgc := n4_; have BKgr := n5_; have BKe := n6_; clear n0_ n1_ n2_ n3_ n4_ n5_ n6_; clear hb; have hzBKgr_0 : w4.cell? ⟨gr, 0, none⟩ = some ((.int .i64 0)) := (blk_cell BKgr.out 0).trans rfl; have hfBKgr_0 := blk_frozen BKgr.out 0; have hzBKgr_1 : w4.cell? ⟨gr, 1, none⟩ = some ((.int .i64 0)) := (blk_cell BKgr.out 1).trans rfl; have hfBKgr_1 := blk_frozen BKgr.out 1; have hzBKgr_2 : w4.cell? ⟨gr, 2, none⟩ = some ((.int .i64 0)) := (blk_cell BKgr.out 2).trans rfl; have hfBKgr_2 := blk_frozen BKgr.out 2; have hzBKgr_3 : w4.cell? ⟨gr, 3, none⟩ = some ((.int .i64 0)) := (blk_cell BKgr.out 3).trans rfl; have hfBKgr_3 := blk_frozen BKgr.out 3; have hzBKgr_4 : w4.cell? ⟨gr, 4, none⟩ = some ((.int .i64 0)) := (blk_cell BKgr.out 4).trans rfl; have hfBKgr_4 := blk_frozen BKgr.out 4; have hzBKe_0 : w4.cell? ⟨ge, 0, none⟩ = some ((.int .i64 1)) := (blk_cell BKe.out 0).trans rfl; have hfBKe_0 := blk_frozen BKe.out 0; have hzBKe_1 : w4.cell? ⟨ge, 1, none⟩ = some ((.int .i64 ((look L c).getD 0))) := (blk_cell BKe.out 1).trans rfl; have hfBKe_1 := blk_frozen BKe.out 1; have hzBKe_2 : w4.cell? ⟨ge, 2, none⟩ = some ((.int .i64 c.f0)) := (blk_cell BKe.out 2).trans rfl; have hfBKe_2 := blk_frozen BKe.out 2; have hzBKe_3 : w4.cell? ⟨ge, 3, none⟩ = some ((.int .i64 c.f1)) := (blk_cell BKe.out 3).trans rfl; have hfBKe_3 := blk_frozen BKe.out 3; have hzBKe_4 : w4.cell? ⟨ge, 4, none⟩ = some ((.int .i64 c.f2)) := (blk_cell BKe.out 4).trans rfl; have hfBKe_4 := blk_frozen BKe.out 4)
    refine bodyPost_ret (results_cell_row rfl _ _ gr 63 #[(.int .i64 1), (.int .i64 ((look L c).getD 0)), (.int .i64 c.f0), (.int .i64 c.f1), (.int .i64 c.f2)] (0, 0) _ rfl (by refine blk_put (cs := #[(.int .i64 1), (.int .i64 ((look L c).getD 0)), (.int .i64 c.f0), (.int .i64 c.f1), (.int .i64 0)]) ?_ 4 _ rfl; refine blk_put (cs := #[(.int .i64 1), (.int .i64 ((look L c).getD 0)), (.int .i64 c.f0), (.int .i64 0), (.int .i64 0)]) ?_ 3 _ rfl; refine blk_put (cs := #[(.int .i64 1), (.int .i64 ((look L c).getD 0)), (.int .i64 0), (.int .i64 0), (.int .i64 0)]) ?_ 2 _ rfl; refine blk_put (cs := #[(.int .i64 1), (.int .i64 0), (.int .i64 0), (.int .i64 0), (.int .i64 0)]) ?_ 1 _ rfl; refine blk_put (cs := #[(.int .i64 0), (.int .i64 0), (.int .i64 0), (.int .i64 0), (.int .i64 0)]) ?_ 0 _ rfl; exact BKgr.out) Try.underlying63 rfl (by kernel_rfl)) rfl ?_
    refine ⟨?_, ?_⟩
    · show Ending.returned (.agg #[(.int .i64 1), (.int .i64 ((look L c).getD 0)), (.int .i64 c.f0), (.int .i64 c.f1), (.int .i64 c.f2)]) = _
      unfold entryOf
      rw [HS.out]
      rfl
    · exact below_set (below_set (below_set (below_set (below_set (HB.out) GEgr.out) GEgr.out) GEgr.out) GEgr.out) GEgr.out
end Go.Proofs.Ytgkbcgmcpbbneaa.Q
