/- The walk of (*queue.heap[entry]).push at the heap of a queue. -/
import Derived.Test.YtgkbcgmcpbbneaaOf
import Derived.BigRegion
namespace Go.Proofs.Ytgkbcgmcpbbneaa.Q
open Go Go.RowKit Go.Maps Go.Proofs.YtgkbcgmcpbbneaaW.PrintWords Go.Proofs.YtgkbcgmcpbbneaaW.PrintLast Go.Proofs.YtgkbcgmcpbbneaaW.PrintMore
attribute [local go_sem] max2_int min2_int max_two min_two max_three min_three max_four min_four
set_option maxRecDepth 100000
set_option linter.unusedVariables false
set_option linter.unusedSimpArgs false
theorem upH_fuel : ∀ (f f' : Nat) (l : List S63) (i : Nat), i < f → i < f' → upH f l i = upH f' l i
  | 0, _, _, _, h, _ => by omega
  | _, 0, _, _, _, h => by omega
  | f + 1, f' + 1, l, i, h, h' => by
    unfold upH
    split
    · rfl
    · split
      · rfl
      · exact upH_fuel f f' _ _ (by omega) (by omega)
theorem swp_length (l : List S63) (i j : Nat) : (swp l i j).length = l.length := by simp [swp]
theorem g63_get (l : List S63) (i : Nat) (h : i < l.length) : g63 l i = l[i] := by
  unfold g63
  rw [List.getD_eq_getElem?_getD, List.getElem?_eq_getElem h]; rfl
def QB (w : World) (qb mb : Nat) (vs vh : Value) : Prop := w.heap[qb]? = some (.cells (qcs mb vs vh) 61 (0, 0))
theorem QB.below {w w' : World} {qb mb : Nat} {vs vh : Value} (h : QB w qb mb vs vh) (hb : Below w.heap.size w w') : QB w' qb mb vs vh := blk_below (g := qb) (o := .cells (qcs mb vs vh) 61 (0, 0)) h hb
theorem elem63 {w : World} {OK : Nat → Prop} {g n cap : Nat} {xs : List S63} (h : Kd.R k63 63 w 0 OK (.slice (some ⟨g, 0, none⟩) n cap) xs) (i : Nat) (hi : i < n) :
    (∀ j u, (ec (g63 xs i))[j]? = some u → w.cell? ⟨g, i * 5 + j, none⟩ = some u) ∧ ∀ j, w.frozen? ⟨g, i * 5 + j, none⟩ = false := by
  obtain ⟨c, hcl, hM, hcc, hfr⟩ := Kd.R_elem h z63 (i : Int) (by omega) (by omega)
  obtain rfl := k63_openM hM
  exact ⟨hcc, hfr⟩
theorem goesV_ {P : Program} {ops : Array Oper} {Q : Exit → Act → World → Prop} {oi : Oper} {N : Option Tmp} {a : Act} {w : World} {K : Act → World → Prop} {f : FuncId} {fn : Func} {ags : Array Operand} {ts : Array TypeId} (hf : P.funcs[f]? = some fn) (hname : (fn.name == "runtime.NumGoroutine") = false) (hb : fn.body.isSome = true) (args : Array Value) (t : Operand)
    (hw : Region.wanted oi (yielded ops a.tmps) = true) (hN : oi.dst = N) (hop : oi.op = .call { callee := .value t, args := ags, argTypes := ts }) (hv : a.eval t = .func (.func f) #[] #[]) (hargs : ags.map a.eval = args)
    (h : Calls P f args w fun e w' => ∃ v, e = .returned v ∧ K (a.put N v) w') : if Region.wanted oi (yielded ops a.tmps) = true then Oper.wp P oi a w K Q else K (a.put N undef) w := by
  refine call_ f args hw hN ?_ h
  have he := enters_ hf hname hb args w
  unfold execOp
  simp [hop, resolve, hv, Deferred.ofValue, invoke, hargs, he]
def put5 (w : World) (g o : Nat) (x : S63) : World := ((((w.setCell ⟨g, o, none⟩ (.int .i64 x.f0)).setCell ⟨g, o + 1, none⟩ (.int .i64 x.f1)).setCell ⟨g, o + 2, none⟩ (.int .i64 x.f2.f0)).setCell ⟨g, o + 3, none⟩ (.int .i64 x.f2.f1)).setCell ⟨g, o + 4, none⟩ (.int .i64 x.f2.f2)
theorem put5_R {w : World} {OK : Nat → Prop} {g n cap : Nat} {xs : List S63} (h : Kd.R k63 63 w 0 OK (.slice (some ⟨g, 0, none⟩) n cap) xs) (i : Nat) (hi : i < n) (x : S63) :
    Kd.R k63 63 (put5 w g (i * 5) x) 0 OK (.slice (some ⟨g, 0, none⟩) n cap) (xs.set i x) ∧ w.grownBy (put5 w g (i * 5) x) (some g) := by
  obtain ⟨c, hcl, hM, hcc, hfr⟩ := Kd.R_elem h z63 (i : Int) (by omega) (by omega)
  obtain rfl := k63_openM hM
  exact Kd.R_seg h (i : Int) (by omega) (by omega) (seg := ec x) (j := 0) hcl hcc (show 0 + 5 ≤ 5 by decide) (x' := x) (k63_mkM _ _ (fun _ => False) x) (fun _ hk => hk.elim)
theorem swap_R {w : World} {OK : Nat → Prop} {g n cap : Nat} {xs : List S63} (h : Kd.R k63 63 w 0 OK (.slice (some ⟨g, 0, none⟩) n cap) xs) (u i : Nat) (hu : u < n) (hi : i < n) {xa xb : S63} (ha : g63 xs u = xa) (hb : g63 xs i = xb) :
    Kd.R k63 63 (put5 (put5 w g (u * 5) xb) g (i * 5) xa) 0 OK (.slice (some ⟨g, 0, none⟩) n cap) (swp xs u i) ∧ w.grownBy (put5 (put5 w g (u * 5) xb) g (i * 5) xa) (some g) := by
  obtain ⟨h1, g1⟩ := put5_R h u hu xb
  obtain ⟨h2, g2⟩ := put5_R h1 i hi xa
  subst ha hb
  exact ⟨h2, g1.andThen g2 (fun j hj => .inr hj)⟩
/-- What push leaves. -/
def PushPost (w : World) (F : Nat → Prop) (qb mb : Nat) (vs vh : Value) (hp' : List S63) (e : Ending) (w' : World) : Prop :=
  e = .returned (.tuple #[]) ∧ ∃ vh', QB w' qb mb vs vh' ∧ Kd.R k63 63 w' 0 (fun k => F k ∨ w.heap.size ≤ k) vh' hp' ∧ Kp w w' (fun k => k = qb ∨ some k = vh.ownBlock)

set_option maxHeartbeats 8000000 in
theorem push_calls (w : World) (F : Nat → Prop) (qb mb : Nat) (vs vh : Value) (hp : List S63) (x : S63) (hb : QB w qb mb vs vh) (hR : Kd.R k63 63 w 0 F vh hp) (hl : hp.length ≤ 1000000) :
    Calls Try.prog 30 #[.pointer (some ⟨qb, 2, none⟩), .agg #[(.int .i64 x.f0), (.int .i64 x.f1), (.int .i64 x.f2.f0), (.int .i64 x.f2.f1), (.int .i64 x.f2.f2)]] w (PushPost w F qb mb vs vh (pushH hp x)) := by
  have hu63 := Try.underlying63
  have hu59 := Try.underlying59
  have hu55 := Try.underlying55
  have HK : Aside0 (Kp w w (fun k => k = qb ∨ some k = vh.ownBlock)) := ⟨Kp.refl _ _⟩
  have HQ := Aside0.mk hb
  have HR : Aside0 (Kd.R k63 63 w 0 (fun k => F k ∨ w.heap.size ≤ k) vh hp) := ⟨Kd.R_mono hR (fun k hk => .inl hk)⟩
  have HLN := Aside0.mk hl
  have HLB : Aside0 ((hp.length + 1) * 40 ≤ 140737488355328) := ⟨by omega⟩
  clear hb hR hl
  go_enter Try.func30, Try.ntmps30
  go_wp2_with (first | ((with_reducible refine gate_dst (N := 3) rfl ?_); refine box_event ?hg (N := 3) ?hd (cs := #[(.int .i64 x.f0), (.int .i64 x.f1), (.int .i64 x.f2.f0), (.int .i64 x.f2.f1), (.int .i64 x.f2.f2)]) (t := 63) ?hr ?_; (case hd => rfl); (case hg => rfl); (case hr => first | (go_simp; done) | (go_simp; rfl)); intro gx hg w1 hbox hb; have GEgx : Aside0 (w.heap.size ≤ gx) := ⟨by rw [hg]; exact Nat.le_refl _⟩; have n0_ : Aside0 (Kp w w1 (fun k => k = qb ∨ some k = vh.ownBlock)) := ⟨(Kp.then_ HK.out (Kp.of_below hb (fun _ => False)) (fun _ h => h.elim))⟩; have n1_ : Aside0 (QB w1 qb mb vs vh) := ⟨(QB.below HQ.out hb)⟩; have n2_ : Aside0 (Kd.R k63 63 w1 0 (fun k => F k ∨ w.heap.size ≤ k) vh hp) := ⟨(Kd.R_below HR.out hb)⟩; clear HK HQ HR; have HK := n0_; have HQ := n1_; have HR := n2_; clear n0_ n1_ n2_; have BKgx : Aside0 (w1.heap[gx]? = some (.cells #[(.int .i64 x.f0), (.int .i64 x.f1), (.int .i64 x.f2.f0), (.int .i64 x.f2.f1), (.int .i64 x.f2.f2)] 63 (0, 0))) := ⟨hbox⟩; clear hb hbox hg))
  refine start_ (n := 11) (S := fun w' => w'.cell? ⟨qb, 2, none⟩ = some vh ∧ w'.cell? ⟨gx, 0, none⟩ = some ((.int .i64 x.f0)) ∧ w'.cell? ⟨gx, 1, none⟩ = some ((.int .i64 x.f1)) ∧ w'.cell? ⟨gx, 2, none⟩ = some ((.int .i64 x.f2.f0)) ∧ w'.cell? ⟨gx, 3, none⟩ = some ((.int .i64 x.f2.f1)) ∧ w'.cell? ⟨gx, 4, none⟩ = some ((.int .i64 x.f2.f2))) (ds := [7, 10]) #[false, false, false, false, false, false, false, false, false, false, false] (by kernel_rfl) rfl rfl ⟨(blk_cell (QB.below HQ.out (by repeat (first | (with_reducible first | exact Below.refl _ _ | refine below_set ?_ (Nat.le_refl _) | apply below_alloc | apply below_drew1) | refine below_set ?_ (Nat.le_refl _)))) 2).trans rfl, (blk_cell (blk_below BKgx.out (by repeat (first | (with_reducible first | exact Below.refl _ _ | refine below_set ?_ (Nat.le_refl _) | apply below_alloc | apply below_drew1) | refine below_set ?_ (Nat.le_refl _)))) 0).trans rfl, (blk_cell (blk_below BKgx.out (by repeat (first | (with_reducible first | exact Below.refl _ _ | refine below_set ?_ (Nat.le_refl _) | apply below_alloc | apply below_drew1) | refine below_set ?_ (Nat.le_refl _)))) 1).trans rfl, (blk_cell (blk_below BKgx.out (by repeat (first | (with_reducible first | exact Below.refl _ _ | refine below_set ?_ (Nat.le_refl _) | apply below_alloc | apply below_drew1) | refine below_set ?_ (Nat.le_refl _)))) 2).trans rfl, (blk_cell (blk_below BKgx.out (by repeat (first | (with_reducible first | exact Below.refl _ _ | refine below_set ?_ (Nat.le_refl _) | apply below_alloc | apply below_drew1) | refine below_set ?_ (Nat.le_refl _)))) 3).trans rfl, (blk_cell (blk_below BKgx.out (by repeat (first | (with_reducible first | exact Below.refl _ _ | refine below_set ?_ (Nat.le_refl _) | apply below_alloc | apply below_drew1) | refine below_set ?_ (Nat.le_refl _)))) 4).trans rfl⟩ (fun hHeld => ?_)
  refine pure_ (i := 0) (N := some 6) (v := ?_) (a' := ?_) #[true, false, false, false, false, false, false, false, false, false, false] rfl rfl (by kernel_rfl) (fun _ _ _ h => h) (Or.inl ⟨by rfl, ?_⟩) ?_ ?_
  rotate_left
  · intro w'
    go_simp
    with_reducible rfl
  rotate_left
  · simp only [Act.put, List.setIfInBounds_toArray, List.set_cons_zero, List.set_cons_succ, i64_w, i32_w]
    rfl
  refine pure_ (i := 1) (N := some 7) (v := ?_) (a' := ?_) #[true, true, false, false, false, false, false, false, false, false, false] rfl rfl (by kernel_rfl) (fun _ _ _ h => h) (Or.inl ⟨by rfl, ?_⟩) ?_ ?_
  rotate_left
  · intro w'
    go_simp
    with_reducible rfl
  rotate_left
  · simp only [Act.put, List.setIfInBounds_toArray, List.set_cons_zero, List.set_cons_succ, i64_w, i32_w]
    rfl
  refine pure_ (i := 2) (N := some 8) (v := ?_) (a' := ?_) #[true, true, true, false, false, false, false, false, false, false, false] rfl rfl (by kernel_rfl) (fun _ _ _ h => h) (Or.inl ⟨by rfl, ?_⟩) ?_ ?_
  rotate_left
  · intro w'
    go_simp
    with_reducible rfl
  rotate_left
  · simp only [Act.put, List.setIfInBounds_toArray, List.set_cons_zero, List.set_cons_succ, i64_w, i32_w]
    rfl
  refine pure_ (i := 3) (N := some 9) (v := ?_) (a' := ?_) #[true, true, true, true, false, false, false, false, false, false, false] rfl rfl (by kernel_rfl) (fun _ _ _ h => h) (Or.inl ⟨by rfl, ?_⟩) ?_ ?_
  rotate_left
  · intro w'
    go_simp
    with_reducible rfl
  rotate_left
  · simp only [Act.put, List.setIfInBounds_toArray, List.set_cons_zero, List.set_cons_succ, i64_w, i32_w]
    rfl
  refine take_ (i := 4) (N := some 10) (v := ?_) (a' := ?_) #[true, true, true, true, true, false, false, false, false, false, false] rfl rfl (by kernel_rfl) (fun _ _ _ h => h) (Or.inl ⟨by rfl, ?_⟩) hHeld ?_ ?_
  rotate_left
  · rintro w' ⟨s0, s1, s2, s3, s4, s5⟩
    go_simp
    with_reducible rfl
  rotate_left
  · simp only [Act.put, List.setIfInBounds_toArray, List.set_cons_zero, List.set_cons_succ, i64_w, i32_w]
    rfl
  refine take_ (i := 5) (N := some 11) (v := ?_) (a' := ?_) #[true, true, true, true, true, true, false, false, false, false, false] rfl rfl (by kernel_rfl) (fun _ _ _ h => h) (Or.inl ⟨by rfl, ?_⟩) hHeld ?_ ?_
  rotate_left
  · rintro w' ⟨s0, s1, s2, s3, s4, s5⟩
    go_simp
    with_reducible rfl
  rotate_left
  · simp only [Act.put, List.setIfInBounds_toArray, List.set_cons_zero, List.set_cons_succ, i64_w, i32_w]
    rfl
  refine one_ (i := 6) (N := some 12) #[true, true, true, true, true, true, true, false, false, false, false] rfl rfl (by kernel_rfl) (by decide) (fun K hK => ?_)
  refine value_ (w1 := ?_) (v := ?_) (by rfl) rfl ?_ ?_
  rotate_left 2
  · go_simp
    constructor
    · rfl
    · rfl
  refine hK.out _ _ ⟨(blk_cell (QB.below HQ.out (by repeat (first | (with_reducible first | exact Below.refl _ _ | refine below_set ?_ (Nat.le_refl _) | apply below_alloc | apply below_drew1) | refine below_set ?_ (Nat.le_refl _)))) 2).trans rfl, (blk_cell (blk_below BKgx.out (by repeat (first | (with_reducible first | exact Below.refl _ _ | refine below_set ?_ (Nat.le_refl _) | apply below_alloc | apply below_drew1) | refine below_set ?_ (Nat.le_refl _)))) 0).trans rfl, (blk_cell (blk_below BKgx.out (by repeat (first | (with_reducible first | exact Below.refl _ _ | refine below_set ?_ (Nat.le_refl _) | apply below_alloc | apply below_drew1) | refine below_set ?_ (Nat.le_refl _)))) 1).trans rfl, (blk_cell (blk_below BKgx.out (by repeat (first | (with_reducible first | exact Below.refl _ _ | refine below_set ?_ (Nat.le_refl _) | apply below_alloc | apply below_drew1) | refine below_set ?_ (Nat.le_refl _)))) 2).trans rfl, (blk_cell (blk_below BKgx.out (by repeat (first | (with_reducible first | exact Below.refl _ _ | refine below_set ?_ (Nat.le_refl _) | apply below_alloc | apply below_drew1) | refine below_set ?_ (Nat.le_refl _)))) 3).trans rfl, (blk_cell (blk_below BKgx.out (by repeat (first | (with_reducible first | exact Below.refl _ _ | refine below_set ?_ (Nat.le_refl _) | apply below_alloc | apply below_drew1) | refine below_set ?_ (Nat.le_refl _)))) 4).trans rfl⟩ (fun hHeld => ?_)
  clear hK K
  refine norm_ (a' := ?_) ?_ ?_
  rotate_left
  · show Act.put _ (some 12) _ = _
    simp only [Act.put, List.setIfInBounds_toArray, List.set_cons_zero, List.set_cons_succ, i64_w, i32_w]
    rfl
  refine last_ (i := 7) (N := some 13) #[true, true, true, true, true, true, true, true, false, false, false] rfl rfl (by kernel_rfl) (by decide) (fun K hK => ?_)
  refine Kd.R_append_step k63 (w0 := w1) (W := w1.drew) 0 (by rfl) (.tmp 10) (.tmp 12) 55 63 (.agg #[.int .i64 0, .int .i64 0, .int .i64 0, .int .i64 0, .int .i64 0]) 40 rfl Try.underlying55 info63 rfl (by decide) (by omega) vh hp x (ec x) (fun k => F k ∨ w.heap.size ≤ k) (fun _ => False) (by rfl) (by rfl) (k63_mkM _ _ _ x) (fun _ hk => hk.elim) (fun k hk => .inr (Nat.le_trans HK.out.size hk)) (Kd.R_drew HR.out) (below_drew1 (Below.refl 0 w1)) (Nat.zero_le _) HLB.out ?_
  intro v1 w3 hR hb hg hat
  obtain ⟨xs0, hxs⟩ : ∃ xs0, hp ++ [x] = xs0 := ⟨_, rfl⟩
  rw [hxs] at hR
  obtain ⟨g, cap, hv, _, _, _⟩ := Kd.R_form hR (by rw [← hxs]; simp)
  obtain ⟨n, hn⟩ : ∃ n, xs0.length = n := ⟨_, rfl⟩
  rw [hn] at hv
  subst hv
  have HN : Aside0 (n = hp.length + 1) := ⟨by rw [← hn, ← hxs]; simp⟩
  have HX := Aside0.mk hxs
  have HNX := Aside0.mk hn
  have HR3 := Aside0.mk hR
  have HG3 := Aside0.mk hg
  have HAT := Aside0.mk hat
  have HQ3 : Aside0 (QB w3 qb mb vs vh) := ⟨blk_grown (w := w1.drew) HQ.out hg (Kd.R_ne HR.out HQ.out (by decide))⟩
  clear hxs hn hR hb hg hat
  have hcq : w3.cell? ⟨qb, 2, none⟩ = some vh := (blk_cell HQ3.out 2).trans rfl
  have hfq := blk_frozen HQ3.out 2
  refine hK.out _ _ ?_
  clear hK K
  refine norm_ (a' := ?_) ?_ ?_
  rotate_left
  · show Act.put _ (some 13) _ = _
    simp only [Act.put, List.setIfInBounds_toArray, List.set_cons_zero, List.set_cons_succ, i64_w, i32_w]
    rfl
  refine pure_ (i := 8) (N := some 14) (v := ?_) (a' := ?_) #[true, true, true, true, true, true, true, true, true, false, false] rfl rfl (by kernel_rfl) (fun _ _ _ h => h) (Or.inl ⟨by rfl, ?_⟩) ?_ ?_
  rotate_left
  · intro w'
    go_simp
    with_reducible rfl
  rotate_left
  · simp only [Act.put, List.setIfInBounds_toArray, List.set_cons_zero, List.set_cons_succ, i64_w, i32_w]
    rfl
  refine pure_ (i := 9) (N := some 15) (v := ?_) (a' := ?_) #[true, true, true, true, true, true, true, true, true, true, false] rfl rfl (by kernel_rfl) (fun _ _ _ h => h) (Or.inl ⟨by rfl, ?_⟩) ?_ ?_
  rotate_left
  · intro w'
    go_simp
    with_reducible rfl
  rotate_left
  · simp only [Act.put, List.setIfInBounds_toArray, List.set_cons_zero, List.set_cons_succ, i64_w, i32_w]
    rfl
  refine last_ (i := 10) (N := none) #[true, true, true, true, true, true, true, true, true, true, true] rfl rfl (by kernel_rfl) (by decide) (fun K hK => ?_)
  refine skip_ (w1 := ?_) (by rfl) rfl ?_ ?_
  rotate_left
  · go_simp
    rfl
  refine hK.out _ _ ?_
  clear hK K
  refine done_ (by kernel_rfl) ?_
  clear hcq hfq
  have n0_ : Aside0 (QB (w3.setCell ⟨qb, 2, none⟩ (.slice (some ⟨g, 0, none⟩) n cap)) qb mb vs (.slice (some ⟨g, 0, none⟩) n cap)) := ⟨blk_put (cs := qcs mb vs vh) HQ3.out 2 _ rfl⟩
  have n1_ : Aside0 (Kd.R k63 63 (w3.setCell ⟨qb, 2, none⟩ (.slice (some ⟨g, 0, none⟩) n cap)) 0 (fun k => F k ∨ w.heap.size ≤ k) (.slice (some ⟨g, 0, none⟩) n cap) xs0) := ⟨Kd.R_set HR3.out (cells := qcs mb vs vh) (t := 61) HQ3.out (by intro q hq; simp [show k63.E = [] from rfl] at hq; omega) 2 _⟩
  have n2_ : Aside0 (Kp w (w3.setCell ⟨qb, 2, none⟩ (.slice (some ⟨g, 0, none⟩) n cap)) (fun k => k = qb ∨ some k = vh.ownBlock)) := ⟨Kp.setCell (Kp.then_ (Kp.drew HK.out) (Kp.of_grown (S := fun k => some k = vh.ownBlock) (w := w1.drew) HG3.out (fun k hk => hk.symm)) (fun k hk => .inl (.inr hk))) (.inl (.inl rfl)) _⟩
  have HGO : Aside0 ((fun k => k = qb ∨ some k = vh.ownBlock) g ∨ w.heap.size ≤ g) := ⟨by
    rcases HAT.out with h | ⟨b, h, hle⟩
    · exact .inl (.inr h)
    · injection h with h; subst h; exact .inr (Nat.le_trans HK.out.size hle)⟩
  clear HQ HR HK HQ3 HR3 HG3 HAT BKgx GEgx
  have HQ := n0_
  have HR := n1_
  have HK := n2_
  clear n0_ n1_ n2_
  generalize (w3.setCell ⟨qb, 2, none⟩ (.slice (some ⟨g, 0, none⟩) n cap)) = w4 at HQ HR HK ⊢
  have hcq2 : w4.cell? ⟨qb, 2, none⟩ = some (.slice (some ⟨g, 0, none⟩) n cap) := (blk_cell HQ.out 2).trans rfl
  have hnb : 1 ≤ n ∧ n ≤ 1000001 := by have := HN.out; have := HLN.out; omega
  obtain ⟨hnb1, hnb2⟩ := hnb
  have hw1 : IntKind.i64.wrap ((n : Int) - 1) = (n : Int) - 1 := by rw [IntKind.wrap_i64]; omega
  go_wp2
  clear hcq2 hw1
  have HU : Aside0 (upH (n - 1 + 1) xs0 (n - 1) = pushH hp x) := ⟨by
    unfold pushH
    rw [← HX.out, HN.out, Nat.add_sub_cancel]⟩
  go_loopw [4] (fun v4 wr => ∃ (i : Nat) (xs : List S63), v4 = .int .i64 (i : Int) ∧ Aside0 (i < n ∧ xs.length = n) ∧ Aside0 (QB wr qb mb vs (.slice (some ⟨g, 0, none⟩) n cap)) ∧ Aside0 (Kd.R k63 63 wr 0 (fun k => F k ∨ w.heap.size ≤ k) (.slice (some ⟨g, 0, none⟩) n cap) xs) ∧ Aside0 (Kp w wr (fun k => k = qb ∨ some k = vh.ownBlock)) ∧ Aside0 (upH (i + 1) xs i = pushH hp x)) (fun v4 _ => (intOf v4).toNat)
  case atStart => exact ⟨n - 1, xs0, by congr 1; omega, ⟨by omega, HNX.out⟩, HQ, HR, HK, HU⟩
  case round =>
    clear HQ HR HK HU
    obtain ⟨i, xs, rfl, HI, HQ, HR, HK, HU⟩ := hrel
    by_cases hi0 : 0 < i
    · have hin := HI.out.1
      have hcb : decide ((0 : Int) < (i : Int)) = true := decide_eq_true (by omega)
      have hic : ((0 : Int) < (i : Int)) = True := eq_true (by omega)
      obtain ⟨u, hu⟩ : ∃ u, u = (i - 1) / 2 := ⟨_, rfl⟩
      have hui : u < i := by omega
      have hq1 : IntKind.i64.wrap ((i : Int) - 1) = (i : Int) - 1 := by rw [IntKind.wrap_i64]; omega
      have hq2 : ((i : Int) - 1) / 2 = (u : Int) := by omega
      have HUI := Aside0.mk hu
      clear hu
      go_wp2
      rw [hq2]
      clear hcb hic hq1 hq2
      obtain ⟨xa, hxa⟩ : ∃ xa, g63 xs u = xa := ⟨_, rfl⟩
      obtain ⟨xb, hxb⟩ : ∃ xb, g63 xs i = xb := ⟨_, rfl⟩
      have HXA := Aside0.mk hxa
      have HXB := Aside0.mk hxb
      clear hxa hxb
      have hu0 : (0 : Int) ≤ (u : Int) := by omega
      have hun : (u : Int) < (n : Int) := by omega
      have hi00 : (0 : Int) ≤ (i : Int) := by omega
      have hinn : (i : Int) < (n : Int) := by omega
      have HEA : Aside0 ((∀ j v, (ec xa)[j]? = some v → wr.cell? ⟨g, u * 5 + j, none⟩ = some v) ∧ ∀ j, wr.frozen? ⟨g, u * 5 + j, none⟩ = false) := ⟨by have := elem63 HR.out u (by omega); rwa [HXA.out] at this⟩
      have HEB : Aside0 ((∀ j v, (ec xb)[j]? = some v → wr.cell? ⟨g, i * 5 + j, none⟩ = some v) ∧ ∀ j, wr.frozen? ⟨g, i * 5 + j, none⟩ = false) := ⟨by have := elem63 HR.out i (by omega); rwa [HXB.out] at this⟩
      by_cases hle : ordE xa xb ≤ 0
      · have hcd : decide (ordE xa xb ≤ 0) = true := decide_eq_true hle
        have HLE := Aside0.mk hle
        clear hle
        refine start_ (n := 20) (S := fun w' => w'.cell? ⟨qb, 2, none⟩ = some (.slice (some ⟨g, 0, none⟩) n cap) ∧ w'.cell? ⟨qb, 3, none⟩ = some (.func (.func 28) #[] #[]) ∧ w'.cell? ⟨g, u * 5, none⟩ = some (.int .i64 xa.f0) ∧ w'.cell? ⟨g, u * 5 + 1, none⟩ = some (.int .i64 xa.f1) ∧ w'.cell? ⟨g, u * 5 + 2, none⟩ = some (.int .i64 xa.f2.f0) ∧ w'.cell? ⟨g, u * 5 + 3, none⟩ = some (.int .i64 xa.f2.f1) ∧ w'.cell? ⟨g, u * 5 + 4, none⟩ = some (.int .i64 xa.f2.f2) ∧ w'.cell? ⟨g, i * 5, none⟩ = some (.int .i64 xb.f0) ∧ w'.cell? ⟨g, i * 5 + 1, none⟩ = some (.int .i64 xb.f1) ∧ w'.cell? ⟨g, i * 5 + 2, none⟩ = some (.int .i64 xb.f2.f0) ∧ w'.cell? ⟨g, i * 5 + 3, none⟩ = some (.int .i64 xb.f2.f1) ∧ w'.cell? ⟨g, i * 5 + 4, none⟩ = some (.int .i64 xb.f2.f2)) (ds := [18]) #[false, false, false, false, false, false, false, false, false, false, false, false, false, false, false, false, false, false, false, false] (by kernel_rfl) rfl rfl ⟨(blk_cell HQ.out 2).trans rfl, (blk_cell HQ.out 3).trans rfl, HEA.out.1 0 _ rfl, HEA.out.1 1 _ rfl, HEA.out.1 2 _ rfl, HEA.out.1 3 _ rfl, HEA.out.1 4 _ rfl, HEB.out.1 0 _ rfl, HEB.out.1 1 _ rfl, HEB.out.1 2 _ rfl, HEB.out.1 3 _ rfl, HEB.out.1 4 _ rfl⟩ (fun hHeld => ?_)
        refine pure_ (i := 0) (N := some 27) (v := ?_) (a' := ?_) #[true, false, false, false, false, false, false, false, false, false, false, false, false, false, false, false, false, false, false, false] rfl rfl (by kernel_rfl) (fun _ _ _ h => h) (Or.inl ⟨by rfl, ?_⟩) ?_ ?_
        rotate_left
        · intro w'
          go_simp
          with_reducible rfl
        rotate_left
        · simp only [Act.put, List.setIfInBounds_toArray, List.set_cons_zero, List.set_cons_succ, i64_w, i32_w]
          rfl
        refine pure_ (i := 1) (N := some 28) (v := ?_) (a' := ?_) #[true, true, false, false, false, false, false, false, false, false, false, false, false, false, false, false, false, false, false, false] rfl rfl (by kernel_rfl) (fun _ _ _ h => h) (Or.inl ⟨by rfl, ?_⟩) ?_ ?_
        rotate_left
        · intro w'
          go_simp
          with_reducible rfl
        rotate_left
        · simp only [Act.put, List.setIfInBounds_toArray, List.set_cons_zero, List.set_cons_succ, i64_w, i32_w]
          rfl
        refine pure_ (i := 2) (N := some 29) (v := ?_) (a' := ?_) #[true, true, true, false, false, false, false, false, false, false, false, false, false, false, false, false, false, false, false, false] rfl rfl (by kernel_rfl) (fun _ _ _ h => h) (Or.inl ⟨by rfl, ?_⟩) ?_ ?_
        rotate_left
        · intro w'
          go_simp
          with_reducible rfl
        rotate_left
        · simp only [Act.put, List.setIfInBounds_toArray, List.set_cons_zero, List.set_cons_succ, i64_w, i32_w]
          rfl
        refine pure_ (i := 4) (N := some 31) (v := ?_) (a' := ?_) #[true, true, true, false, true, false, false, false, false, false, false, false, false, false, false, false, false, false, false, false] rfl rfl (by kernel_rfl) (fun _ _ _ h => h) (Or.inl ⟨by rfl, ?_⟩) ?_ ?_
        rotate_left
        · intro w'
          go_simp
          with_reducible rfl
        rotate_left
        · simp only [Act.put, List.setIfInBounds_toArray, List.set_cons_zero, List.set_cons_succ, i64_w, i32_w]
          rfl
        refine pure_ (i := 5) (N := some 32) (v := ?_) (a' := ?_) #[true, true, true, false, true, true, false, false, false, false, false, false, false, false, false, false, false, false, false, false] rfl rfl (by kernel_rfl) (fun _ _ _ h => h) (Or.inl ⟨by rfl, ?_⟩) ?_ ?_
        rotate_left
        · intro w'
          go_simp
          with_reducible rfl
        rotate_left
        · simp only [Act.put, List.setIfInBounds_toArray, List.set_cons_zero, List.set_cons_succ, i64_w, i32_w]
          rfl
        refine pure_ (i := 6) (N := some 33) (v := ?_) (a' := ?_) #[true, true, true, false, true, true, true, false, false, false, false, false, false, false, false, false, false, false, false, false] rfl rfl (by kernel_rfl) (fun _ _ _ h => h) (Or.inl ⟨by rfl, ?_⟩) ?_ ?_
        rotate_left
        · intro w'
          go_simp
          with_reducible rfl
        rotate_left
        · simp only [Act.put, List.setIfInBounds_toArray, List.set_cons_zero, List.set_cons_succ, i64_w, i32_w]
          rfl
        refine pure_ (i := 8) (N := some 35) (v := ?_) (a' := ?_) #[true, true, true, false, true, true, true, false, true, false, false, false, false, false, false, false, false, false, false, false] rfl rfl (by kernel_rfl) (fun _ _ _ h => h) (Or.inl ⟨by rfl, ?_⟩) ?_ ?_
        rotate_left
        · intro w'
          go_simp
          with_reducible rfl
        rotate_left
        · simp only [Act.put, List.setIfInBounds_toArray, List.set_cons_zero, List.set_cons_succ, i64_w, i32_w]
          rfl
        refine pure_ (i := 11) (N := some 38) (v := ?_) (a' := ?_) #[true, true, true, false, true, true, true, false, true, false, false, true, false, false, false, false, false, false, false, false] rfl rfl (by kernel_rfl) (fun _ _ _ h => h) (Or.inl ⟨by rfl, ?_⟩) ?_ ?_
        rotate_left
        · intro w'
          go_simp
          with_reducible rfl
        rotate_left
        · simp only [Act.put, List.setIfInBounds_toArray, List.set_cons_zero, List.set_cons_succ, i64_w, i32_w]
          rfl
        refine pure_ (i := 12) (N := some 39) (v := ?_) (a' := ?_) #[true, true, true, false, true, true, true, false, true, false, false, true, true, false, false, false, false, false, false, false] rfl rfl (by kernel_rfl) (fun _ _ _ h => h) (Or.inl ⟨by rfl, ?_⟩) ?_ ?_
        rotate_left
        · intro w'
          go_simp
          with_reducible rfl
        rotate_left
        · simp only [Act.put, List.setIfInBounds_toArray, List.set_cons_zero, List.set_cons_succ, i64_w, i32_w]
          rfl
        refine pure_ (i := 13) (N := some 40) (v := ?_) (a' := ?_) #[true, true, true, false, true, true, true, false, true, false, false, true, true, true, false, false, false, false, false, false] rfl rfl (by kernel_rfl) (fun _ _ _ h => h) (Or.inl ⟨by rfl, ?_⟩) ?_ ?_
        rotate_left
        · intro w'
          go_simp
          with_reducible rfl
        rotate_left
        · simp only [Act.put, List.setIfInBounds_toArray, List.set_cons_zero, List.set_cons_succ, i64_w, i32_w]
          rfl
        refine pure_ (i := 15) (N := some 42) (v := ?_) (a' := ?_) #[true, true, true, false, true, true, true, false, true, false, false, true, true, true, false, true, false, false, false, false] rfl rfl (by kernel_rfl) (fun _ _ _ h => h) (Or.inl ⟨by rfl, ?_⟩) ?_ ?_
        rotate_left
        · intro w'
          go_simp
          with_reducible rfl
        rotate_left
        · simp only [Act.put, List.setIfInBounds_toArray, List.set_cons_zero, List.set_cons_succ, i64_w, i32_w]
          rfl
        refine take_ (i := 3) (N := some 30) (v := ?_) (a' := ?_) #[true, true, true, true, true, true, true, false, true, false, false, true, true, true, false, true, false, false, false, false] rfl rfl (by kernel_rfl) (fun _ _ _ h => h) (Or.inl ⟨by rfl, ?_⟩) hHeld ?_ ?_
        rotate_left
        · rintro w' ⟨s0, s1, s2, s3, s4, s5, s6, s7, s8, s9, s10, s11⟩
          go_simp
          with_reducible rfl
        rotate_left
        · simp only [Act.put, List.setIfInBounds_toArray, List.set_cons_zero, List.set_cons_succ, i64_w, i32_w]
          rfl
        refine take_ (i := 7) (N := some 34) (v := ?_) (a' := ?_) #[true, true, true, true, true, true, true, true, true, false, false, true, true, true, false, true, false, false, false, false] rfl rfl (by kernel_rfl) (fun _ _ _ h => h) (Or.inl ⟨by rfl, ?_⟩) hHeld ?_ ?_
        rotate_left
        · rintro w' ⟨s0, s1, s2, s3, s4, s5, s6, s7, s8, s9, s10, s11⟩
          go_simp
          with_reducible rfl
        rotate_left
        · simp only [Act.put, List.setIfInBounds_toArray, List.set_cons_zero, List.set_cons_succ, i64_w, i32_w]
          rfl
        refine pure_ (i := 9) (N := some 36) (v := ?_) (a' := ?_) #[true, true, true, true, true, true, true, true, true, true, false, true, true, true, false, true, false, false, false, false] rfl rfl (by kernel_rfl) (fun _ _ _ h => h) (Or.inl ⟨by rfl, ?_⟩) ?_ ?_
        rotate_left
        · intro w'
          go_simp
          with_reducible rfl
        rotate_left
        · simp only [Act.put, List.setIfInBounds_toArray, List.set_cons_zero, List.set_cons_succ, i64_w, i32_w]
          rfl
        refine take_ (i := 10) (N := some 37) (v := ?_) (a' := ?_) #[true, true, true, true, true, true, true, true, true, true, true, true, true, true, false, true, false, false, false, false] rfl rfl (by kernel_rfl) (fun _ _ _ h => h) (Or.inl ⟨by rfl, ?_⟩) hHeld ?_ ?_
        rotate_left
        · rintro w' ⟨s0, s1, s2, s3, s4, s5, s6, s7, s8, s9, s10, s11⟩
          go_simp
          with_reducible rfl
        rotate_left
        · simp only [Act.put, List.setIfInBounds_toArray, List.set_cons_zero, List.set_cons_succ, i64_w, i32_w]
          rfl
        refine take_ (i := 14) (N := some 41) (v := ?_) (a' := ?_) #[true, true, true, true, true, true, true, true, true, true, true, true, true, true, true, true, false, false, false, false] rfl rfl (by kernel_rfl) (fun _ _ _ h => h) (Or.inl ⟨by rfl, ?_⟩) hHeld ?_ ?_
        rotate_left
        · rintro w' ⟨s0, s1, s2, s3, s4, s5, s6, s7, s8, s9, s10, s11⟩
          go_simp
          with_reducible rfl
        rotate_left
        · simp only [Act.put, List.setIfInBounds_toArray, List.set_cons_zero, List.set_cons_succ, i64_w, i32_w]
          rfl
        refine pure_ (i := 16) (N := some 43) (v := ?_) (a' := ?_) #[true, true, true, true, true, true, true, true, true, true, true, true, true, true, true, true, true, false, false, false] rfl rfl (by kernel_rfl) (fun _ _ _ h => h) (Or.inl ⟨by rfl, ?_⟩) ?_ ?_
        rotate_left
        · intro w'
          go_simp
          with_reducible rfl
        rotate_left
        · simp only [Act.put, List.setIfInBounds_toArray, List.set_cons_zero, List.set_cons_succ, i64_w, i32_w]
          rfl
        refine take_ (i := 17) (N := some 44) (v := ?_) (a' := ?_) #[true, true, true, true, true, true, true, true, true, true, true, true, true, true, true, true, true, true, false, false] rfl rfl (by kernel_rfl) (fun _ _ _ h => h) (Or.inl ⟨by rfl, ?_⟩) hHeld ?_ ?_
        rotate_left
        · rintro w' ⟨s0, s1, s2, s3, s4, s5, s6, s7, s8, s9, s10, s11⟩
          go_simp
          with_reducible rfl
        rotate_left
        · simp only [Act.put, List.setIfInBounds_toArray, List.set_cons_zero, List.set_cons_succ, i64_w, i32_w]
          rfl
        refine last_ (i := 18) (N := some 45) #[true, true, true, true, true, true, true, true, true, true, true, true, true, true, true, true, true, true, true, false] rfl rfl (by kernel_rfl) (by decide) (fun K hK => ?_)
        refine goesV_ Try.func28 (by kernel_rfl) rfl #[.agg #[(.int .i64 xa.f0), (.int .i64 xa.f1), (.int .i64 xa.f2.f0), (.int .i64 xa.f2.f1), (.int .i64 xa.f2.f2)], .agg #[(.int .i64 xb.f0), (.int .i64 xb.f1), (.int .i64 xb.f2.f0), (.int .i64 xb.f2.f1), (.int .i64 xb.f2.f2)]] (.tmp 30) (by rfl) rfl rfl (by rfl) (by simp only [List.map_toArray, List.map_cons, List.map_nil]; rfl) ?_
        with_reducible refine (queue_order.calls xa.f0 xa.f1 xa.f2.f0 xa.f2.f1 xa.f2.f2 xb.f0 xb.f1 xb.f2.f0 xb.f2.f1 xb.f2.f2 (ordE xa xb) _ (order_f xa xb)).mono ?_
        rintro e w6 ⟨rfl, hb⟩
        refine ⟨_, rfl, ?_⟩
        refine hK.out _ _ ?_
        clear hK K
        refine norm_ (a' := ?_) ?_ ?_
        rotate_left
        · show Act.put _ (some 45) _ = _
          simp only [Act.put, List.setIfInBounds_toArray, List.set_cons_zero, List.set_cons_succ, i64_w, i32_w]
          rfl
        refine pure_ (i := 19) (N := some 46) (v := ?_) (a' := ?_) #[true, true, true, true, true, true, true, true, true, true, true, true, true, true, true, true, true, true, true, true] rfl rfl (by kernel_rfl) (fun _ _ _ h => h) (Or.inl ⟨by rfl, ?_⟩) ?_ ?_
        rotate_left
        · intro w'
          go_simp
          with_reducible rfl
        rotate_left
        · simp only [Act.put, List.setIfInBounds_toArray, List.set_cons_zero, List.set_cons_succ, i64_w, i32_w]
          rfl
        refine done_ (by kernel_rfl) ?_
        have hb2 : Below wr.heap.size wr w6 := ⟨hb.os, hb.tape, hb.output, hb.size, hb.block⟩
        clear hb HEA HEB
        have n0_ : Aside0 (Kp w w6 (fun k => k = qb ∨ some k = vh.ownBlock)) := ⟨(Kp.then_ HK.out (Kp.of_below hb2 (fun _ => False)) (fun _ h => h.elim))⟩
        have n1_ : Aside0 (QB w6 qb mb vs (.slice (some ⟨g, 0, none⟩) n cap)) := ⟨(QB.below HQ.out hb2)⟩
        have n2_ : Aside0 (Kd.R k63 63 w6 0 (fun k => F k ∨ w.heap.size ≤ k) (.slice (some ⟨g, 0, none⟩) n cap) xs) := ⟨(Kd.R_below HR.out hb2)⟩
        clear HK HQ HR
        have HK := n0_
        have HQ := n1_
        have HR := n2_
        clear n0_ n1_ n2_
        clear hb2
        go_wp2
        have hfin : xs = pushH hp x := by have h := HU.out; unfold upH at h; rwa [if_neg (by omega), if_pos (by rw [← HUI.out, HXA.out, HXB.out]; exact HLE.out)] at h
        subst hfin
        go_end0
        exact ⟨rfl, _, HQ.out, HR.out, HK.out⟩
      · have hcd : decide (ordE xa xb ≤ 0) = false := decide_eq_false hle
        have HLE := Aside0.mk hle
        clear hle
        refine start_ (n := 20) (S := fun w' => w'.cell? ⟨qb, 2, none⟩ = some (.slice (some ⟨g, 0, none⟩) n cap) ∧ w'.cell? ⟨qb, 3, none⟩ = some (.func (.func 28) #[] #[]) ∧ w'.cell? ⟨g, u * 5, none⟩ = some (.int .i64 xa.f0) ∧ w'.cell? ⟨g, u * 5 + 1, none⟩ = some (.int .i64 xa.f1) ∧ w'.cell? ⟨g, u * 5 + 2, none⟩ = some (.int .i64 xa.f2.f0) ∧ w'.cell? ⟨g, u * 5 + 3, none⟩ = some (.int .i64 xa.f2.f1) ∧ w'.cell? ⟨g, u * 5 + 4, none⟩ = some (.int .i64 xa.f2.f2) ∧ w'.cell? ⟨g, i * 5, none⟩ = some (.int .i64 xb.f0) ∧ w'.cell? ⟨g, i * 5 + 1, none⟩ = some (.int .i64 xb.f1) ∧ w'.cell? ⟨g, i * 5 + 2, none⟩ = some (.int .i64 xb.f2.f0) ∧ w'.cell? ⟨g, i * 5 + 3, none⟩ = some (.int .i64 xb.f2.f1) ∧ w'.cell? ⟨g, i * 5 + 4, none⟩ = some (.int .i64 xb.f2.f2)) (ds := [18]) #[false, false, false, false, false, false, false, false, false, false, false, false, false, false, false, false, false, false, false, false] (by kernel_rfl) rfl rfl ⟨(blk_cell HQ.out 2).trans rfl, (blk_cell HQ.out 3).trans rfl, HEA.out.1 0 _ rfl, HEA.out.1 1 _ rfl, HEA.out.1 2 _ rfl, HEA.out.1 3 _ rfl, HEA.out.1 4 _ rfl, HEB.out.1 0 _ rfl, HEB.out.1 1 _ rfl, HEB.out.1 2 _ rfl, HEB.out.1 3 _ rfl, HEB.out.1 4 _ rfl⟩ (fun hHeld => ?_)
        refine pure_ (i := 0) (N := some 27) (v := ?_) (a' := ?_) #[true, false, false, false, false, false, false, false, false, false, false, false, false, false, false, false, false, false, false, false] rfl rfl (by kernel_rfl) (fun _ _ _ h => h) (Or.inl ⟨by rfl, ?_⟩) ?_ ?_
        rotate_left
        · intro w'
          go_simp
          with_reducible rfl
        rotate_left
        · simp only [Act.put, List.setIfInBounds_toArray, List.set_cons_zero, List.set_cons_succ, i64_w, i32_w]
          rfl
        refine pure_ (i := 1) (N := some 28) (v := ?_) (a' := ?_) #[true, true, false, false, false, false, false, false, false, false, false, false, false, false, false, false, false, false, false, false] rfl rfl (by kernel_rfl) (fun _ _ _ h => h) (Or.inl ⟨by rfl, ?_⟩) ?_ ?_
        rotate_left
        · intro w'
          go_simp
          with_reducible rfl
        rotate_left
        · simp only [Act.put, List.setIfInBounds_toArray, List.set_cons_zero, List.set_cons_succ, i64_w, i32_w]
          rfl
        refine pure_ (i := 2) (N := some 29) (v := ?_) (a' := ?_) #[true, true, true, false, false, false, false, false, false, false, false, false, false, false, false, false, false, false, false, false] rfl rfl (by kernel_rfl) (fun _ _ _ h => h) (Or.inl ⟨by rfl, ?_⟩) ?_ ?_
        rotate_left
        · intro w'
          go_simp
          with_reducible rfl
        rotate_left
        · simp only [Act.put, List.setIfInBounds_toArray, List.set_cons_zero, List.set_cons_succ, i64_w, i32_w]
          rfl
        refine pure_ (i := 4) (N := some 31) (v := ?_) (a' := ?_) #[true, true, true, false, true, false, false, false, false, false, false, false, false, false, false, false, false, false, false, false] rfl rfl (by kernel_rfl) (fun _ _ _ h => h) (Or.inl ⟨by rfl, ?_⟩) ?_ ?_
        rotate_left
        · intro w'
          go_simp
          with_reducible rfl
        rotate_left
        · simp only [Act.put, List.setIfInBounds_toArray, List.set_cons_zero, List.set_cons_succ, i64_w, i32_w]
          rfl
        refine pure_ (i := 5) (N := some 32) (v := ?_) (a' := ?_) #[true, true, true, false, true, true, false, false, false, false, false, false, false, false, false, false, false, false, false, false] rfl rfl (by kernel_rfl) (fun _ _ _ h => h) (Or.inl ⟨by rfl, ?_⟩) ?_ ?_
        rotate_left
        · intro w'
          go_simp
          with_reducible rfl
        rotate_left
        · simp only [Act.put, List.setIfInBounds_toArray, List.set_cons_zero, List.set_cons_succ, i64_w, i32_w]
          rfl
        refine pure_ (i := 6) (N := some 33) (v := ?_) (a' := ?_) #[true, true, true, false, true, true, true, false, false, false, false, false, false, false, false, false, false, false, false, false] rfl rfl (by kernel_rfl) (fun _ _ _ h => h) (Or.inl ⟨by rfl, ?_⟩) ?_ ?_
        rotate_left
        · intro w'
          go_simp
          with_reducible rfl
        rotate_left
        · simp only [Act.put, List.setIfInBounds_toArray, List.set_cons_zero, List.set_cons_succ, i64_w, i32_w]
          rfl
        refine pure_ (i := 8) (N := some 35) (v := ?_) (a' := ?_) #[true, true, true, false, true, true, true, false, true, false, false, false, false, false, false, false, false, false, false, false] rfl rfl (by kernel_rfl) (fun _ _ _ h => h) (Or.inl ⟨by rfl, ?_⟩) ?_ ?_
        rotate_left
        · intro w'
          go_simp
          with_reducible rfl
        rotate_left
        · simp only [Act.put, List.setIfInBounds_toArray, List.set_cons_zero, List.set_cons_succ, i64_w, i32_w]
          rfl
        refine pure_ (i := 11) (N := some 38) (v := ?_) (a' := ?_) #[true, true, true, false, true, true, true, false, true, false, false, true, false, false, false, false, false, false, false, false] rfl rfl (by kernel_rfl) (fun _ _ _ h => h) (Or.inl ⟨by rfl, ?_⟩) ?_ ?_
        rotate_left
        · intro w'
          go_simp
          with_reducible rfl
        rotate_left
        · simp only [Act.put, List.setIfInBounds_toArray, List.set_cons_zero, List.set_cons_succ, i64_w, i32_w]
          rfl
        refine pure_ (i := 12) (N := some 39) (v := ?_) (a' := ?_) #[true, true, true, false, true, true, true, false, true, false, false, true, true, false, false, false, false, false, false, false] rfl rfl (by kernel_rfl) (fun _ _ _ h => h) (Or.inl ⟨by rfl, ?_⟩) ?_ ?_
        rotate_left
        · intro w'
          go_simp
          with_reducible rfl
        rotate_left
        · simp only [Act.put, List.setIfInBounds_toArray, List.set_cons_zero, List.set_cons_succ, i64_w, i32_w]
          rfl
        refine pure_ (i := 13) (N := some 40) (v := ?_) (a' := ?_) #[true, true, true, false, true, true, true, false, true, false, false, true, true, true, false, false, false, false, false, false] rfl rfl (by kernel_rfl) (fun _ _ _ h => h) (Or.inl ⟨by rfl, ?_⟩) ?_ ?_
        rotate_left
        · intro w'
          go_simp
          with_reducible rfl
        rotate_left
        · simp only [Act.put, List.setIfInBounds_toArray, List.set_cons_zero, List.set_cons_succ, i64_w, i32_w]
          rfl
        refine pure_ (i := 15) (N := some 42) (v := ?_) (a' := ?_) #[true, true, true, false, true, true, true, false, true, false, false, true, true, true, false, true, false, false, false, false] rfl rfl (by kernel_rfl) (fun _ _ _ h => h) (Or.inl ⟨by rfl, ?_⟩) ?_ ?_
        rotate_left
        · intro w'
          go_simp
          with_reducible rfl
        rotate_left
        · simp only [Act.put, List.setIfInBounds_toArray, List.set_cons_zero, List.set_cons_succ, i64_w, i32_w]
          rfl
        refine take_ (i := 3) (N := some 30) (v := ?_) (a' := ?_) #[true, true, true, true, true, true, true, false, true, false, false, true, true, true, false, true, false, false, false, false] rfl rfl (by kernel_rfl) (fun _ _ _ h => h) (Or.inl ⟨by rfl, ?_⟩) hHeld ?_ ?_
        rotate_left
        · rintro w' ⟨s0, s1, s2, s3, s4, s5, s6, s7, s8, s9, s10, s11⟩
          go_simp
          with_reducible rfl
        rotate_left
        · simp only [Act.put, List.setIfInBounds_toArray, List.set_cons_zero, List.set_cons_succ, i64_w, i32_w]
          rfl
        refine take_ (i := 7) (N := some 34) (v := ?_) (a' := ?_) #[true, true, true, true, true, true, true, true, true, false, false, true, true, true, false, true, false, false, false, false] rfl rfl (by kernel_rfl) (fun _ _ _ h => h) (Or.inl ⟨by rfl, ?_⟩) hHeld ?_ ?_
        rotate_left
        · rintro w' ⟨s0, s1, s2, s3, s4, s5, s6, s7, s8, s9, s10, s11⟩
          go_simp
          with_reducible rfl
        rotate_left
        · simp only [Act.put, List.setIfInBounds_toArray, List.set_cons_zero, List.set_cons_succ, i64_w, i32_w]
          rfl
        refine pure_ (i := 9) (N := some 36) (v := ?_) (a' := ?_) #[true, true, true, true, true, true, true, true, true, true, false, true, true, true, false, true, false, false, false, false] rfl rfl (by kernel_rfl) (fun _ _ _ h => h) (Or.inl ⟨by rfl, ?_⟩) ?_ ?_
        rotate_left
        · intro w'
          go_simp
          with_reducible rfl
        rotate_left
        · simp only [Act.put, List.setIfInBounds_toArray, List.set_cons_zero, List.set_cons_succ, i64_w, i32_w]
          rfl
        refine take_ (i := 10) (N := some 37) (v := ?_) (a' := ?_) #[true, true, true, true, true, true, true, true, true, true, true, true, true, true, false, true, false, false, false, false] rfl rfl (by kernel_rfl) (fun _ _ _ h => h) (Or.inl ⟨by rfl, ?_⟩) hHeld ?_ ?_
        rotate_left
        · rintro w' ⟨s0, s1, s2, s3, s4, s5, s6, s7, s8, s9, s10, s11⟩
          go_simp
          with_reducible rfl
        rotate_left
        · simp only [Act.put, List.setIfInBounds_toArray, List.set_cons_zero, List.set_cons_succ, i64_w, i32_w]
          rfl
        refine take_ (i := 14) (N := some 41) (v := ?_) (a' := ?_) #[true, true, true, true, true, true, true, true, true, true, true, true, true, true, true, true, false, false, false, false] rfl rfl (by kernel_rfl) (fun _ _ _ h => h) (Or.inl ⟨by rfl, ?_⟩) hHeld ?_ ?_
        rotate_left
        · rintro w' ⟨s0, s1, s2, s3, s4, s5, s6, s7, s8, s9, s10, s11⟩
          go_simp
          with_reducible rfl
        rotate_left
        · simp only [Act.put, List.setIfInBounds_toArray, List.set_cons_zero, List.set_cons_succ, i64_w, i32_w]
          rfl
        refine pure_ (i := 16) (N := some 43) (v := ?_) (a' := ?_) #[true, true, true, true, true, true, true, true, true, true, true, true, true, true, true, true, true, false, false, false] rfl rfl (by kernel_rfl) (fun _ _ _ h => h) (Or.inl ⟨by rfl, ?_⟩) ?_ ?_
        rotate_left
        · intro w'
          go_simp
          with_reducible rfl
        rotate_left
        · simp only [Act.put, List.setIfInBounds_toArray, List.set_cons_zero, List.set_cons_succ, i64_w, i32_w]
          rfl
        refine take_ (i := 17) (N := some 44) (v := ?_) (a' := ?_) #[true, true, true, true, true, true, true, true, true, true, true, true, true, true, true, true, true, true, false, false] rfl rfl (by kernel_rfl) (fun _ _ _ h => h) (Or.inl ⟨by rfl, ?_⟩) hHeld ?_ ?_
        rotate_left
        · rintro w' ⟨s0, s1, s2, s3, s4, s5, s6, s7, s8, s9, s10, s11⟩
          go_simp
          with_reducible rfl
        rotate_left
        · simp only [Act.put, List.setIfInBounds_toArray, List.set_cons_zero, List.set_cons_succ, i64_w, i32_w]
          rfl
        refine last_ (i := 18) (N := some 45) #[true, true, true, true, true, true, true, true, true, true, true, true, true, true, true, true, true, true, true, false] rfl rfl (by kernel_rfl) (by decide) (fun K hK => ?_)
        refine goesV_ Try.func28 (by kernel_rfl) rfl #[.agg #[(.int .i64 xa.f0), (.int .i64 xa.f1), (.int .i64 xa.f2.f0), (.int .i64 xa.f2.f1), (.int .i64 xa.f2.f2)], .agg #[(.int .i64 xb.f0), (.int .i64 xb.f1), (.int .i64 xb.f2.f0), (.int .i64 xb.f2.f1), (.int .i64 xb.f2.f2)]] (.tmp 30) (by rfl) rfl rfl (by rfl) (by simp only [List.map_toArray, List.map_cons, List.map_nil]; rfl) ?_
        with_reducible refine (queue_order.calls xa.f0 xa.f1 xa.f2.f0 xa.f2.f1 xa.f2.f2 xb.f0 xb.f1 xb.f2.f0 xb.f2.f1 xb.f2.f2 (ordE xa xb) _ (order_f xa xb)).mono ?_
        rintro e w6 ⟨rfl, hb⟩
        refine ⟨_, rfl, ?_⟩
        refine hK.out _ _ ?_
        clear hK K
        refine norm_ (a' := ?_) ?_ ?_
        rotate_left
        · show Act.put _ (some 45) _ = _
          simp only [Act.put, List.setIfInBounds_toArray, List.set_cons_zero, List.set_cons_succ, i64_w, i32_w]
          rfl
        refine pure_ (i := 19) (N := some 46) (v := ?_) (a' := ?_) #[true, true, true, true, true, true, true, true, true, true, true, true, true, true, true, true, true, true, true, true] rfl rfl (by kernel_rfl) (fun _ _ _ h => h) (Or.inl ⟨by rfl, ?_⟩) ?_ ?_
        rotate_left
        · intro w'
          go_simp
          with_reducible rfl
        rotate_left
        · simp only [Act.put, List.setIfInBounds_toArray, List.set_cons_zero, List.set_cons_succ, i64_w, i32_w]
          rfl
        refine done_ (by kernel_rfl) ?_
        have hb2 : Below wr.heap.size wr w6 := ⟨hb.os, hb.tape, hb.output, hb.size, hb.block⟩
        clear hb HEA HEB
        have n0_ : Aside0 (Kp w w6 (fun k => k = qb ∨ some k = vh.ownBlock)) := ⟨(Kp.then_ HK.out (Kp.of_below hb2 (fun _ => False)) (fun _ h => h.elim))⟩
        have n1_ : Aside0 (QB w6 qb mb vs (.slice (some ⟨g, 0, none⟩) n cap)) := ⟨(QB.below HQ.out hb2)⟩
        have n2_ : Aside0 (Kd.R k63 63 w6 0 (fun k => F k ∨ w.heap.size ≤ k) (.slice (some ⟨g, 0, none⟩) n cap) xs) := ⟨(Kd.R_below HR.out hb2)⟩
        clear HK HQ HR
        have HK := n0_
        have HQ := n1_
        have HR := n2_
        clear n0_ n1_ n2_
        clear hb2
        go_wp2
        have HEA : Aside0 ((∀ j v, (ec xa)[j]? = some v → w6.cell? ⟨g, u * 5 + j, none⟩ = some v) ∧ ∀ j, w6.frozen? ⟨g, u * 5 + j, none⟩ = false) := ⟨by have := elem63 HR.out u (by omega); rwa [HXA.out] at this⟩
        have HEB : Aside0 ((∀ j v, (ec xb)[j]? = some v → w6.cell? ⟨g, i * 5 + j, none⟩ = some v) ∧ ∀ j, w6.frozen? ⟨g, i * 5 + j, none⟩ = false) := ⟨by have := elem63 HR.out i (by omega); rwa [HXB.out] at this⟩
        have hcq2 : w6.cell? ⟨qb, 2, none⟩ = some (.slice (some ⟨g, 0, none⟩) n cap) := (blk_cell HQ.out 2).trans rfl
        have hHEA0 : w6.cell? ⟨g, u * 5, none⟩ = some (.int .i64 xa.f0) := HEA.out.1 0 _ rfl
        have hfHEA0 : w6.frozen? ⟨g, u * 5, none⟩ = false := HEA.out.2 0
        have hHEA1 : w6.cell? ⟨g, u * 5 + 1, none⟩ = some (.int .i64 xa.f1) := HEA.out.1 1 _ rfl
        have hfHEA1 : w6.frozen? ⟨g, u * 5 + 1, none⟩ = false := HEA.out.2 1
        have hHEA2 : w6.cell? ⟨g, u * 5 + 2, none⟩ = some (.int .i64 xa.f2.f0) := HEA.out.1 2 _ rfl
        have hfHEA2 : w6.frozen? ⟨g, u * 5 + 2, none⟩ = false := HEA.out.2 2
        have hHEA3 : w6.cell? ⟨g, u * 5 + 3, none⟩ = some (.int .i64 xa.f2.f1) := HEA.out.1 3 _ rfl
        have hfHEA3 : w6.frozen? ⟨g, u * 5 + 3, none⟩ = false := HEA.out.2 3
        have hHEA4 : w6.cell? ⟨g, u * 5 + 4, none⟩ = some (.int .i64 xa.f2.f2) := HEA.out.1 4 _ rfl
        have hfHEA4 : w6.frozen? ⟨g, u * 5 + 4, none⟩ = false := HEA.out.2 4
        have hHEB0 : w6.cell? ⟨g, i * 5, none⟩ = some (.int .i64 xb.f0) := HEB.out.1 0 _ rfl
        have hfHEB0 : w6.frozen? ⟨g, i * 5, none⟩ = false := HEB.out.2 0
        have hHEB1 : w6.cell? ⟨g, i * 5 + 1, none⟩ = some (.int .i64 xb.f1) := HEB.out.1 1 _ rfl
        have hfHEB1 : w6.frozen? ⟨g, i * 5 + 1, none⟩ = false := HEB.out.2 1
        have hHEB2 : w6.cell? ⟨g, i * 5 + 2, none⟩ = some (.int .i64 xb.f2.f0) := HEB.out.1 2 _ rfl
        have hfHEB2 : w6.frozen? ⟨g, i * 5 + 2, none⟩ = false := HEB.out.2 2
        have hHEB3 : w6.cell? ⟨g, i * 5 + 3, none⟩ = some (.int .i64 xb.f2.f1) := HEB.out.1 3 _ rfl
        have hfHEB3 : w6.frozen? ⟨g, i * 5 + 3, none⟩ = false := HEB.out.2 3
        have hHEB4 : w6.cell? ⟨g, i * 5 + 4, none⟩ = some (.int .i64 xb.f2.f2) := HEB.out.1 4 _ rfl
        have hfHEB4 : w6.frozen? ⟨g, i * 5 + 4, none⟩ = false := HEB.out.2 4
        have hne1 : qb ≠ g := fun e => Kd.R_ne HR.out HQ.out (by decide) (by rw [e]; rfl)
        have hne2 : g ≠ qb := fun e => hne1 e.symm
        go_region
        clear hcq2 hne2 hHEA0 hfHEA0 hHEA1 hfHEA1 hHEA2 hfHEA2 hHEA3 hfHEA3 hHEA4 hfHEA4 hHEB0 hfHEB0 hHEB1 hfHEB1 hHEB2 hfHEB2 hHEB3 hfHEB3 hHEB4 hfHEB4
        have HSW : Aside0 (Kd.R k63 63 ((((((((((w6.setCell ⟨g, u * 5, none⟩ (.int .i64 xb.f0)).setCell ⟨g, u * 5 + 1, none⟩ (.int .i64 xb.f1)).setCell ⟨g, u * 5 + 2, none⟩ (.int .i64 xb.f2.f0)).setCell ⟨g, u * 5 + 3, none⟩ (.int .i64 xb.f2.f1)).setCell ⟨g, u * 5 + 4, none⟩ (.int .i64 xb.f2.f2)).setCell ⟨g, i * 5, none⟩ (.int .i64 xa.f0)).setCell ⟨g, i * 5 + 1, none⟩ (.int .i64 xa.f1)).setCell ⟨g, i * 5 + 2, none⟩ (.int .i64 xa.f2.f0)).setCell ⟨g, i * 5 + 3, none⟩ (.int .i64 xa.f2.f1)).setCell ⟨g, i * 5 + 4, none⟩ (.int .i64 xa.f2.f2)) 0 (fun k => F k ∨ w.heap.size ≤ k) (.slice (some ⟨g, 0, none⟩) n cap) (swp xs u i) ∧ w6.grownBy ((((((((((w6.setCell ⟨g, u * 5, none⟩ (.int .i64 xb.f0)).setCell ⟨g, u * 5 + 1, none⟩ (.int .i64 xb.f1)).setCell ⟨g, u * 5 + 2, none⟩ (.int .i64 xb.f2.f0)).setCell ⟨g, u * 5 + 3, none⟩ (.int .i64 xb.f2.f1)).setCell ⟨g, u * 5 + 4, none⟩ (.int .i64 xb.f2.f2)).setCell ⟨g, i * 5, none⟩ (.int .i64 xa.f0)).setCell ⟨g, i * 5 + 1, none⟩ (.int .i64 xa.f1)).setCell ⟨g, i * 5 + 2, none⟩ (.int .i64 xa.f2.f0)).setCell ⟨g, i * 5 + 3, none⟩ (.int .i64 xa.f2.f1)).setCell ⟨g, i * 5 + 4, none⟩ (.int .i64 xa.f2.f2)) (some g)) := ⟨swap_R HR.out u i (by omega) (by omega) HXA.out HXB.out⟩
        generalize ((((((((((w6.setCell ⟨g, u * 5, none⟩ (.int .i64 xb.f0)).setCell ⟨g, u * 5 + 1, none⟩ (.int .i64 xb.f1)).setCell ⟨g, u * 5 + 2, none⟩ (.int .i64 xb.f2.f0)).setCell ⟨g, u * 5 + 3, none⟩ (.int .i64 xb.f2.f1)).setCell ⟨g, u * 5 + 4, none⟩ (.int .i64 xb.f2.f2)).setCell ⟨g, i * 5, none⟩ (.int .i64 xa.f0)).setCell ⟨g, i * 5 + 1, none⟩ (.int .i64 xa.f1)).setCell ⟨g, i * 5 + 2, none⟩ (.int .i64 xa.f2.f0)).setCell ⟨g, i * 5 + 3, none⟩ (.int .i64 xa.f2.f1)).setCell ⟨g, i * 5 + 4, none⟩ (.int .i64 xa.f2.f2)) = w7 at HSW ⊢
        have n0_ : Aside0 (QB w7.drew qb mb vs (.slice (some ⟨g, 0, none⟩) n cap)) := ⟨(show QB w7 qb mb vs (.slice (some ⟨g, 0, none⟩) n cap) from blk_grown (w := w6) (w1 := w7) HQ.out HSW.out.2 (fun e => hne1 (Option.some.inj e)))⟩
        have n1_ : Aside0 (Kd.R k63 63 w7.drew 0 (fun k => F k ∨ w.heap.size ≤ k) (.slice (some ⟨g, 0, none⟩) n cap) (swp xs u i)) := ⟨Kd.R_drew HSW.out.1⟩
        have n2_ : Aside0 (Kp w w7.drew (fun k => k = qb ∨ some k = vh.ownBlock)) := ⟨Kp.drew (Kp.then_ HK.out (Kp.of_grown (S := fun k => k = g) HSW.out.2 (fun k hk => by injection hk with hk; exact hk.symm)) (fun k hk => by subst hk; exact HGO.out))⟩
        clear HQ HR HK HSW HEA HEB hne1
        have HQ := n0_
        have HR := n1_
        have HK := n2_
        clear n0_ n1_ n2_
        generalize w7.drew = w8 at HQ HR HK ⊢
        go_wp2
        go_roundw
        case measure => simp [intOf]; omega
        case rel => exact ⟨u, swp xs u i, rfl, ⟨by omega, by rw [swp_length]; exact HI.out.2⟩, HQ, HR, HK, ⟨by have h := HU.out; unfold upH at h; rw [if_neg (by omega), ← HUI.out, if_neg (by rw [HXA.out, HXB.out]; have := HLE.out; omega)] at h; rw [← h]; exact upH_fuel _ _ _ _ (by omega) (by omega)⟩⟩
    · obtain rfl : i = 0 := by omega
      have hcb : decide ((0 : Int) < ((0 : Nat) : Int)) = false := by decide
      go_wp2
      have hfin : xs = pushH hp x := by have h := HU.out; unfold upH at h; rwa [if_pos rfl] at h
      subst hfin
      go_end0
      exact ⟨rfl, _, HQ.out, HR.out, HK.out⟩
end Go.Proofs.Ytgkbcgmcpbbneaa.Q
