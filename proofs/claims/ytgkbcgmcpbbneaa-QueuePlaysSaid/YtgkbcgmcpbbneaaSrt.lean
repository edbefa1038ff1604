/- slices.SortFunc laid at []queue.entry; queue.order's contract as the sort asks it: new blocks and nothing else. -/
import Derived.Test.YtgkbcgmcpbbneaaQue
import Derived.Shelf.SlSortCmp.NoneTotal
namespace Go.Proofs.Ytgkbcgmcpbbneaa.Q
open Go Go.RowKit Go.Shelf Go.Sort Go.Proofs Go.Proofs.YtgkbcgmcpbbneaaW.PrintWords
set_option maxRecDepth 100000
set_option linter.unusedVariables false
set_option linter.unusedSimpArgs false
def sortE_ren : Go.Shelf.Ren := ⟨fun | 6 => 27 | 15 => 40 | 14 => 39 | 28 => 53 | 29 => 54 | 20 => 45 | 21 => 46 | 22 => 47 | 23 => 48 | 24 => 49 | 25 => 50 | 26 => 51 | 27 => 52 | 46 => 61 | 47 => 62 | 48 => 63 | 49 => 64 | 50 => 65 | 57 => 70 | n => n, fun | 22 => 55 | 24 => 63 | 25 => 57 | 3 => 3 | 39 => 76 | 0 => 0 | 53 => 89 | 55 => 91 | 4 => 4 | 46 => 83 | 45 => 82 | 50 => 50 | 5 => 5 | 9 => 9 | 66 => 94 | 70 => 98 | 76 => 100 | 77 => 101 | n => n, fun n => n⟩
theorem sortE : SlLaysF0.n6 Try.prog sortE_ren := {
  mixed := by kernel_rfl,
  f6 := ⟨ "slices.SortFunc[[]whittle/queue.entry,whittle/queue.entry]", by decide, Try.func27.trans (congrArg some (by kernel_rfl))⟩,
  f14 := ⟨ "slices.pdqsortCmpFunc[whittle/queue.entry]", by decide, Try.func39.trans (congrArg some (by kernel_rfl))⟩,
  f15 := Try.func40.trans (congrArg some (by kernel_rfl)),
  f20 := ⟨ "slices.insertionSortCmpFunc[whittle/queue.entry]", by decide, Try.func45.trans (congrArg some (by kernel_rfl))⟩,
  f21 := ⟨ "slices.heapSortCmpFunc[whittle/queue.entry]", by decide, Try.func46.trans (congrArg some (by kernel_rfl))⟩,
  f22 := ⟨ "slices.breakPatternsCmpFunc[whittle/queue.entry]", by decide, Try.func47.trans (congrArg some (by kernel_rfl))⟩,
  f23 := ⟨ "slices.choosePivotCmpFunc[whittle/queue.entry]", by decide, Try.func48.trans (congrArg some (by kernel_rfl))⟩,
  f24 := ⟨ "slices.reverseRangeCmpFunc[whittle/queue.entry]", by decide, Try.func49.trans (congrArg some (by kernel_rfl))⟩,
  f25 := ⟨ "slices.partialInsertionSortCmpFunc[whittle/queue.entry]", by decide, Try.func50.trans (congrArg some (by kernel_rfl))⟩,
  f26 := ⟨ "slices.partitionEqualCmpFunc[whittle/queue.entry]", by decide, Try.func51.trans (congrArg some (by kernel_rfl))⟩,
  f27 := ⟨ "slices.partitionCmpFunc[whittle/queue.entry]", by decide, Try.func52.trans (congrArg some (by kernel_rfl))⟩,
  f28 := Try.func53.trans (congrArg some (by kernel_rfl)),
  f29 := Try.func54.trans (congrArg some (by kernel_rfl)),
  f46 := ⟨ "slices.siftDownCmpFunc[whittle/queue.entry]", by decide, Try.func61.trans (congrArg some (by kernel_rfl))⟩,
  f47 := Try.func62.trans (congrArg some (by kernel_rfl)),
  f48 := Try.func63.trans (congrArg some (by kernel_rfl)),
  f49 := ⟨ "slices.medianAdjacentCmpFunc[whittle/queue.entry]", by decide, Try.func64.trans (congrArg some (by kernel_rfl))⟩,
  f50 := ⟨ "slices.medianCmpFunc[whittle/queue.entry]", by decide, Try.func65.trans (congrArg some (by kernel_rfl))⟩,
  f57 := ⟨ "slices.order2CmpFunc[whittle/queue.entry]", by decide, Try.func70.trans (congrArg some (by kernel_rfl))⟩,
  t0 := Try.underlying0,
  a0 := Try.isAgg0,
  z0 := Try.sizeOf0,
  v0 := Try.zeroValue0,
  t3 := Try.underlying3,
  a3 := Try.isAgg3,
  z3 := Try.sizeOf3,
  v3 := Try.zeroValue3,
  t4 := Try.underlying4,
  a4 := Try.isAgg4,
  z4 := Try.sizeOf4,
  v4 := Try.zeroValue4,
  t5 := Try.underlying5,
  a5 := Try.isAgg5,
  z5 := Try.sizeOf5,
  v5 := Try.zeroValue5,
  t9 := Try.underlying9,
  a9 := Try.isAgg9,
  z9 := Try.sizeOf9,
  v9 := Try.zeroValue9,
  t22 := Try.underlying55,
  a22 := Try.isAgg55,
  z22 := Try.sizeOf55,
  v22 := Try.zeroValue55,
  t25 := Try.underlying57,
  a25 := Try.isAgg57,
  z25 := Try.sizeOf57,
  v25 := Try.zeroValue57,
  t39 := Try.underlying76,
  a39 := Try.isAgg76,
  z39 := Try.sizeOf76,
  v39 := Try.zeroValue76,
  t45 := Try.underlying82,
  a45 := Try.isAgg82,
  z45 := Try.sizeOf82,
  v45 := Try.zeroValue82,
  t46 := Try.underlying83,
  a46 := Try.isAgg83,
  z46 := Try.sizeOf83,
  v46 := Try.zeroValue83,
  t50 := Try.underlying50,
  a50 := Try.isAgg50,
  z50 := Try.sizeOf50,
  v50 := Try.zeroValue50,
  t53 := Try.underlying89,
  a53 := Try.isAgg89,
  z53 := Try.sizeOf89,
  v53 := Try.zeroValue89,
  t55 := Try.underlying91,
  a55 := Try.isAgg91,
  z55 := Try.sizeOf91,
  v55 := Try.zeroValue91,
  t66 := Try.underlying94,
  a66 := Try.isAgg94,
  z66 := Try.sizeOf94,
  v66 := Try.zeroValue94,
  t70 := Try.underlying98,
  a70 := Try.isAgg98,
  z70 := Try.sizeOf98,
  v70 := Try.zeroValue98,
  t76 := Try.underlying100,
  a76 := Try.isAgg100,
  z76 := Try.sizeOf100,
  v76 := Try.zeroValue100,
  t77 := Try.underlying101,
  a77 := Try.isAgg101,
  z77 := Try.sizeOf101,
  v77 := Try.zeroValue101 }

theorem compare_same (a b r : Int) (hr : (if a < b then -1 else if b < a then 1 else 0) = r) (W : World) : Calls Try.prog 41 #[.int .i64 a, .int .i64 b] W fun e w' => e = .returned (.int .i64 r) ∧ W = w' := by
  have HR := Aside0.mk hr
  clear hr
  by_cases h1 : a < b
  · have hd : decide (a < b) = true := decide_eq_true h1
    have H1 := Aside0.mk h1
    go_enter Try.func41, Try.ntmps41
    go_wp2
    go_ret
    refine ⟨?_, rfl⟩
    rw [← HR.out, if_pos H1.out]
    rfl
  · have hd : decide (a < b) = false := decide_eq_false h1
    have H1 := Aside0.mk h1
    clear h1
    by_cases h2 : b < a
    · have hd2 : decide (b < a) = true := decide_eq_true h2
      have H2 := Aside0.mk h2
      go_enter Try.func41, Try.ntmps41
      go_wp2
      go_ret
      refine ⟨?_, rfl⟩
      rw [← HR.out, if_neg (by have := H1.out; omega), if_pos H2.out]
      rfl
    · have hd2 : decide (b < a) = false := decide_eq_false h2
      have H2 := Aside0.mk h2
      clear h2
      go_enter Try.func41, Try.ntmps41
      go_wp2
      go_ret
      refine ⟨?_, rfl⟩
      rw [← HR.out, if_neg (by have := H1.out; omega), if_neg (by have := H2.out; omega)]
      rfl
theorem before_grow (a b : S30) (W : World) : Calls Try.prog 25 #[.agg #[.int .i64 a.f0, .int .i64 a.f1, .int .i64 a.f2], .agg #[.int .i64 b.f0, .int .i64 b.f1, .int .i64 b.f2]] W fun e w' => e = .returned (.bool (ltC a b)) ∧ ∃ os', w' = grow W os' := by
  have hu30 := Try.underlying30
  by_cases h0 : a.f0 = b.f0
  · have c0 : (a.f0 != b.f0) = false := bne_eq_false_iff_eq.mpr h0
    have H0 := Aside0.mk h0
    clear h0
    by_cases h1 : a.f1 = b.f1
    · have c1 : (a.f1 != b.f1) = false := bne_eq_false_iff_eq.mpr h1
      have H1 := Aside0.mk h1
      clear h1
      go_enter Try.func25, Try.ntmps25
      go_wp2
      go_ret
      exact ⟨by unfold ltC; rw [H0.out, H1.out]; simp, _, by rw [alloc_eq_grow, alloc_eq_grow, grow_grow]⟩
    · have c1 : (a.f1 != b.f1) = true := bne_iff_ne.mpr h1
      have H1 := Aside0.mk h1
      clear h1
      go_enter Try.func25, Try.ntmps25
      go_wp2
      go_ret
      exact ⟨by unfold ltC; rw [H0.out, decide_eq_false H1.out]; simp, _, by rw [alloc_eq_grow, alloc_eq_grow, grow_grow]⟩
  · have c0 : (a.f0 != b.f0) = true := bne_iff_ne.mpr h0
    have H0 := Aside0.mk h0
    clear h0
    go_enter Try.func25, Try.ntmps25
    go_wp2
    go_ret
    exact ⟨by unfold ltC; rw [decide_eq_false H0.out]; simp, _, by rw [alloc_eq_grow, alloc_eq_grow, grow_grow]⟩

theorem before_is (a b : S30) (p : Bool) (hp : ltC a b = p) (W : World) : Calls Try.prog 25 #[.agg #[.int .i64 a.f0, .int .i64 a.f1, .int .i64 a.f2], .agg #[.int .i64 b.f0, .int .i64 b.f1, .int .i64 b.f2]] W fun e w' => e = .returned (.bool p) ∧ ∃ os', w' = grow W os' := by
  subst hp
  exact before_grow a b W
theorem cell_second (W : World) (o : Obj) (cs : Array Value) (i : Nat) {t : TypeId} (v : Value) (h : cs[i]? = some v) : ((W.alloc o).alloc (.cells cs t (0, 0))).cell? ⟨W.heap.size + 1, i, none⟩ = some v := by
  have h1 := blk_cell (blk_new (W.alloc o) (.cells cs t (0, 0))) i
  rw [show (W.alloc o).heap.size = W.heap.size + 1 by simp] at h1
  exact h1.trans h
theorem cell_grow_old (w : World) (os : Array Obj) (a : Addr) (v : Value) (h : w.cell? a = some v) : (grow w os).cell? a = some v := by
  have hlt := World.block_lt_of_cell? w a h
  have hb : (grow w os).heap[a.block]? = w.heap[a.block]? := by show (w.heap ++ os)[a.block]? = _; rw [Array.getElem?_append_left hlt]
  simpa [World.cell?, hb] using h

set_option maxHeartbeats 2000000 in
theorem order_grow (a b : S63) (W : World) : Calls Try.prog 28 #[.agg #[.int .i64 a.f0, .int .i64 a.f1, .int .i64 a.f2.f0, .int .i64 a.f2.f1, .int .i64 a.f2.f2], .agg #[.int .i64 b.f0, .int .i64 b.f1, .int .i64 b.f2.f0, .int .i64 b.f2.f1, .int .i64 b.f2.f2]] W fun e w' => e = .returned (.int .i64 (ordE a b)) ∧ ∃ os', w' = grow W os' := by
  have hu63 := Try.underlying63
  have hu30 := Try.underlying30
  by_cases h0 : a.f0 = b.f0
  · have c0 : (a.f0 != b.f0) = false := bne_eq_false_iff_eq.mpr h0
    have H0 := Aside0.mk h0
    clear h0
    by_cases h1 : a.f1 = b.f1
    · have c1 : (a.f1 != b.f1) = false := bne_eq_false_iff_eq.mpr h1
      have H1 := Aside0.mk h1
      clear h1
      have TOK : True := trivial
      have HL : Aside0 (ltE a b = ltC a.f2 b.f2 ∧ ltE b a = ltC b.f2 a.f2) := ⟨by unfold ltE; rw [H0.out, H1.out]; simp⟩
      obtain ⟨p, hp⟩ : ∃ p, ltC a.f2 b.f2 = p := ⟨_, rfl⟩
      obtain ⟨q, hq⟩ : ∃ q, ltC b.f2 a.f2 = q := ⟨_, rfl⟩
      have HP := Aside0.mk hp
      have HQ := Aside0.mk hq
      have hO : ordE a b = if p then -1 else if q then 1 else 0 := by unfold ordE; rw [HL.out.1, HL.out.2, hp, hq]
      clear hp hq
      cases p with
      | true =>
        have hO1 : ordE a b = -1 := by rw [hO]; rfl
        rw [hO1]
        clear hO hO1
        go_enter Try.func28, Try.ntmps28
        go_wp2_with (go_at_call 25; (with_reducible refine (before_is a.f2 b.f2 true HP.out _).mono ?_); rintro e w2 ⟨rfl, hw2⟩; have HW2 := Aside0.mk hw2; clear hw2)
        go_ret
        obtain ⟨os, hw⟩ := HW2.out
        exact ⟨rfl, _, by rw [hw, alloc_eq_grow, alloc_eq_grow, grow_grow, grow_grow]⟩
      | false =>
        cases q with
        | true =>
          have hO1 : ordE a b = 1 := by rw [hO]; rfl
          rw [hO1]
          clear hO hO1
          go_enter Try.func28, Try.ntmps28
          go_wp2_with (first | (go_at_call 25; have _t := TOK; (with_reducible refine (before_is a.f2 b.f2 false HP.out _).mono ?_); rintro e w2 ⟨rfl, hw2⟩; have HW2 := Aside0.mk hw2; clear hw2 TOK; have hza2 : w2.cell? ⟨W.heap.size, 2, none⟩ = some (.int .i64 a.f2.f0) := (by obtain ⟨os, rfl⟩ := HW2.out; exact cell_grow_old _ _ _ _ ((blk_cell (blk_below (g := W.heap.size) (blk_new W _) (below_alloc (Below.refl _ _) _)) 2).trans rfl)); have hza3 : w2.cell? ⟨W.heap.size, 3, none⟩ = some (.int .i64 a.f2.f1) := (by obtain ⟨os, rfl⟩ := HW2.out; exact cell_grow_old _ _ _ _ ((blk_cell (blk_below (g := W.heap.size) (blk_new W _) (below_alloc (Below.refl _ _) _)) 3).trans rfl)); have hza4 : w2.cell? ⟨W.heap.size, 4, none⟩ = some (.int .i64 a.f2.f2) := (by obtain ⟨os, rfl⟩ := HW2.out; exact cell_grow_old _ _ _ _ ((blk_cell (blk_below (g := W.heap.size) (blk_new W _) (below_alloc (Below.refl _ _) _)) 4).trans rfl)); have hzb2 : w2.cell? ⟨W.heap.size + 1, 2, none⟩ = some (.int .i64 b.f2.f0) := (by obtain ⟨os, rfl⟩ := HW2.out; exact cell_grow_old _ _ _ _ (cell_second W _ _ 2 _ rfl)); have hzb3 : w2.cell? ⟨W.heap.size + 1, 3, none⟩ = some (.int .i64 b.f2.f1) := (by obtain ⟨os, rfl⟩ := HW2.out; exact cell_grow_old _ _ _ _ (cell_second W _ _ 3 _ rfl)); have hzb4 : w2.cell? ⟨W.heap.size + 1, 4, none⟩ = some (.int .i64 b.f2.f2) := (by obtain ⟨os, rfl⟩ := HW2.out; exact cell_grow_old _ _ _ _ (cell_second W _ _ 4 _ rfl))) | (go_at_call 25; (with_reducible refine (before_is b.f2 a.f2 _ HQ.out _).mono ?_); rintro e w4 ⟨rfl, hw4⟩; have HW4 := Aside0.mk hw4; clear hw4))
          go_ret
          obtain ⟨os, hw⟩ := HW2.out
          obtain ⟨os4, hw4⟩ := HW4.out
          exact ⟨rfl, _, by rw [hw4, hw, alloc_eq_grow, alloc_eq_grow, grow_grow, grow_grow, grow_grow]⟩
        | false =>
          have hO1 : ordE a b = 0 := by rw [hO]; rfl
          rw [hO1]
          clear hO hO1
          go_enter Try.func28, Try.ntmps28
          go_wp2_with (first | (go_at_call 25; have _t := TOK; (with_reducible refine (before_is a.f2 b.f2 false HP.out _).mono ?_); rintro e w2 ⟨rfl, hw2⟩; have HW2 := Aside0.mk hw2; clear hw2 TOK; have hza2 : w2.cell? ⟨W.heap.size, 2, none⟩ = some (.int .i64 a.f2.f0) := (by obtain ⟨os, rfl⟩ := HW2.out; exact cell_grow_old _ _ _ _ ((blk_cell (blk_below (g := W.heap.size) (blk_new W _) (below_alloc (Below.refl _ _) _)) 2).trans rfl)); have hza3 : w2.cell? ⟨W.heap.size, 3, none⟩ = some (.int .i64 a.f2.f1) := (by obtain ⟨os, rfl⟩ := HW2.out; exact cell_grow_old _ _ _ _ ((blk_cell (blk_below (g := W.heap.size) (blk_new W _) (below_alloc (Below.refl _ _) _)) 3).trans rfl)); have hza4 : w2.cell? ⟨W.heap.size, 4, none⟩ = some (.int .i64 a.f2.f2) := (by obtain ⟨os, rfl⟩ := HW2.out; exact cell_grow_old _ _ _ _ ((blk_cell (blk_below (g := W.heap.size) (blk_new W _) (below_alloc (Below.refl _ _) _)) 4).trans rfl)); have hzb2 : w2.cell? ⟨W.heap.size + 1, 2, none⟩ = some (.int .i64 b.f2.f0) := (by obtain ⟨os, rfl⟩ := HW2.out; exact cell_grow_old _ _ _ _ (cell_second W _ _ 2 _ rfl)); have hzb3 : w2.cell? ⟨W.heap.size + 1, 3, none⟩ = some (.int .i64 b.f2.f1) := (by obtain ⟨os, rfl⟩ := HW2.out; exact cell_grow_old _ _ _ _ (cell_second W _ _ 3 _ rfl)); have hzb4 : w2.cell? ⟨W.heap.size + 1, 4, none⟩ = some (.int .i64 b.f2.f2) := (by obtain ⟨os, rfl⟩ := HW2.out; exact cell_grow_old _ _ _ _ (cell_second W _ _ 4 _ rfl))) | (go_at_call 25; (with_reducible refine (before_is b.f2 a.f2 _ HQ.out _).mono ?_); rintro e w4 ⟨rfl, hw4⟩; have HW4 := Aside0.mk hw4; clear hw4))
          go_ret
          obtain ⟨os, hw⟩ := HW2.out
          obtain ⟨os4, hw4⟩ := HW4.out
          exact ⟨rfl, _, by rw [hw4, hw, alloc_eq_grow, alloc_eq_grow, grow_grow, grow_grow, grow_grow]⟩
    · have c1 : (a.f1 != b.f1) = true := bne_iff_ne.mpr h1
      have H1 := Aside0.mk h1
      clear h1
      obtain ⟨r, hr⟩ : ∃ r, (if a.f1 < b.f1 then -1 else if b.f1 < a.f1 then 1 else 0 : Int) = r := ⟨_, rfl⟩
      have HR := Aside0.mk hr
      have hO : ordE a b = r := by
        rw [← hr]
        unfold ordE ltE
        rw [H0.out, decide_eq_false H1.out, decide_eq_false (fun e => H1.out e.symm : ¬ b.f1 = a.f1)]
        simp
      rw [hO]
      clear hr hO
      go_enter Try.func28, Try.ntmps28
      go_wp2_with (go_at_call 41; (with_reducible refine (compare_same a.f1 b.f1 r HR.out _).mono ?_); rintro e w2 ⟨rfl, rfl⟩)
      go_ret
      exact ⟨rfl, _, by rw [alloc_eq_grow, alloc_eq_grow, grow_grow]⟩
  · have c0 : (a.f0 != b.f0) = true := bne_iff_ne.mpr h0
    have H0 := Aside0.mk h0
    clear h0
    obtain ⟨r, hr⟩ : ∃ r, (if a.f0 < b.f0 then -1 else if b.f0 < a.f0 then 1 else 0 : Int) = r := ⟨_, rfl⟩
    have HR := Aside0.mk hr
    have hO : ordE a b = r := by
      rw [← hr]
      unfold ordE ltE
      rw [decide_eq_false H0.out, decide_eq_false (fun e => H0.out e.symm : ¬ b.f0 = a.f0)]
      simp
    rw [hO]
    clear hr hO
    go_enter Try.func28, Try.ntmps28
    go_wp2_with (go_at_call 41; (with_reducible refine (compare_same a.f0 b.f0 r HR.out _).mono ?_); rintro e w2 ⟨rfl, rfl⟩)
    go_ret
    exact ⟨rfl, _, by rw [alloc_eq_grow, alloc_eq_grow, grow_grow]⟩

end Go.Proofs.Ytgkbcgmcpbbneaa.Q
