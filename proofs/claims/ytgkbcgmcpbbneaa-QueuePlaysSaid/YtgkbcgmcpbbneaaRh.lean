/- The walks of the document's queue: See, Put, Drop. -/
import Derived.Test.YtgkbcgmcpbbneaaRf
namespace Go.Proofs.Ytgkbcgmcpbbneaa.Q
open Go Go.RowKit Go.Maps Go.Proofs.YtgkbcgmcpbbneaaW.PrintWords Go.Proofs.YtgkbcgmcpbbneaaW.PrintLast Go.Proofs.YtgkbcgmcpbbneaaW.PrintMore
set_option maxRecDepth 100000
set_option linter.unusedVariables false
set_option linter.unusedSimpArgs false
attribute [local go_sem high] eqA30
def DQ (w : World) (F : Nat → Prop) (db : Nat) (L : List Wt) (sn : List S46) : Prop := ∃ vl va, DAt w F db vl va L sn
section
variable {w w' : World} {F F2 : Nat → Prop} {db : Nat} {vl va : Value} {L : List Wt} {sn : List S46}
theorem DAt.mono (h : DAt w F db vl va L sn) (hF : ∀ k, F k → F2 k) : DAt w F2 db vl va L sn := ⟨h.blk, Kd.R_mono h.list hF, Kd.R_mono h.seen hF, hF _ h.fd⟩
theorem DAt.move (h : DAt w F db vl va L sn) (hm : ∀ k, F k → k < w.heap.size → w'.heap[k]? = w.heap[k]?) : DAt w' F db vl va L sn := ⟨(hm db h.fd (blk_lt h.blk)).trans h.blk, Kd.R_step h.list hm, Kd.R_step h.seen hm, h.fd⟩
theorem DAt.bound (h : DAt w F db vl va L sn) : DAt w (fun k => F k ∧ k < w.heap.size) db vl va L sn := ⟨h.blk, Kd.R_mono (Kd.R_bound h.list) (fun k hk => ⟨hk.1, hk.2.2.1⟩), Kd.R_mono (Kd.R_bound h.seen) (fun k hk => ⟨hk.1, hk.2.2.1⟩), ⟨h.fd, blk_lt h.blk⟩⟩
theorem DQ.mono (h : DQ w F db L sn) (hF : ∀ k, F k → F2 k) : DQ w F2 db L sn := by obtain ⟨vl, va, h⟩ := h; exact ⟨vl, va, h.mono hF⟩
theorem DQ.move (h : DQ w F db L sn) (hm : ∀ k, F k → k < w.heap.size → w'.heap[k]? = w.heap[k]?) : DQ w' F db L sn := by obtain ⟨vl, va, h⟩ := h; exact ⟨vl, va, h.move hm⟩
theorem DQ.below (h : DQ w F db L sn) (hb : Below w.heap.size w w') : DQ w' F db L sn := h.move (fun k _ hk => hb.block k hk)
theorem DQ.bound (h : DQ w F db L sn) : DQ w (fun k => F k ∧ k < w.heap.size) db L sn := by obtain ⟨vl, va, h⟩ := h; exact ⟨vl, va, h.bound⟩
end
theorem ne69 : ∀ q, q ∈ 46 :: k46.E → q ≠ 69 := by intro q hq; simp [show k46.E = [] from rfl] at hq; omega
theorem ne46 : ∀ q, q ∈ 69 :: k69.E → q ≠ 46 := by intro q hq; simp [show k69.E = [] from rfl] at hq; omega
theorem ne46_41 : ∀ q, q ∈ 46 :: k46.E → q ≠ 41 := by intro q hq; simp [show k46.E = [] from rfl] at hq; omega
theorem ne69_41 : ∀ q, q ∈ 69 :: k69.E → q ≠ 41 := by intro q hq; simp [show k69.E = [] from rfl] at hq; omega
theorem k69_K (w : World) (x : Wt) {cs : List Value} (h : k69.K w x cs) (base : Nat) (ok : Nat → Prop) : k69.M w base ok x cs := by obtain rfl := k69_open h; exact k69_mkM _ _ _ x
theorem put_set {L : List Wt} (hu : Uniq L) {c : S30} {m n : Int} {i : Nat} (hi : i < L.length) (h : L.getD i zWt = (c, m)) : L.set i (c, n) = putL L c n := by
  rw [rdW L i hi] at h
  have hs : (look L c).isSome = true := look_isSome.2 (List.mem_map.2 ⟨L[i], List.getElem_mem hi, by rw [h]⟩)
  unfold putL
  rw [if_pos hs]
  refine List.ext_getElem (by simp) (fun j h1 h2 => ?_)
  rw [List.getElem_set, List.getElem_map]
  rw [List.length_set] at h1
  split
  · rename_i e; subst e; rw [h, if_pos rfl]
  · rename_i e
    have hne : L[j].1 ≠ c := fun hc => by
      have hp := List.pairwise_iff_getElem.1 hu
      rcases Nat.lt_or_gt_of_ne e with hl | hl
      · have := hp i j (by rw [List.length_map]; exact hi) (by rw [List.length_map]; exact h1) hl
        rw [List.getElem_map, List.getElem_map, hc, h] at this
        exact this rfl
      · have := hp j i (by rw [List.length_map]; exact h1) (by rw [List.length_map]; exact hi) hl
        rw [List.getElem_map, List.getElem_map, hc, h] at this
        exact this rfl
    rw [if_neg hne]
theorem put_new {L : List Wt} {c : S30} {n : Int} (h : look L c = none) : L ++ [(c, n)] = putL L c n := by unfold putL; rw [h]; rfl
theorem drop_cut {L : List Wt} (hu : Uniq L) {c : S30} {m : Int} {i : Nat} (hi : i < L.length) (h : L.getD i zWt = (c, m)) : L.take i ++ L.drop (i + 1) = dropL L c := by
  rw [rdW L i hi] at h
  have e : L = L.take i ++ L[i] :: L.drop (i + 1) := by rw [← List.drop_eq_getElem_cons hi, List.take_append_drop]
  have hu2 := hu
  unfold Uniq at hu2
  rw [e, List.map_append, List.map_cons, List.nodup_append] at hu2
  obtain ⟨_, h2, h3⟩ := hu2
  rw [List.nodup_cons] at h2
  unfold dropL
  conv => rhs; rw [e]
  rw [List.filter_append, List.filter_cons_of_neg (by rw [h]; simp)]
  congr 1
  · rw [List.filter_eq_self.2]
    intro p hp
    have : p.1 ≠ c := fun hc => h3 p.1 (List.mem_map.2 ⟨p, hp, rfl⟩) L[i].1 (List.mem_cons_self ..) (by rw [hc, h])
    simpa using this
  · rw [List.filter_eq_self.2]
    intro p hp
    have : p.1 ≠ c := fun hc => h2.1 (List.mem_map.2 ⟨p, hp, by rw [hc, h]⟩)
    simpa using this
theorem k69_one (x : Wt) : ∀ q ∈ wc4 x, q.oneCell' = true := by
  intro q hq
  simp only [wc4, List.mem_cons, List.not_mem_nil, or_false] at hq
  rcases hq with rfl | rfl | rfl | rfl <;> rfl
theorem one_i (n : Int) : ∀ q ∈ ([.int .i64 n] : List Value), q.oneCell' = true := by
  intro q hq
  rcases List.mem_cons.1 hq with rfl | hq
  · rfl
  cases hq

set_option maxHeartbeats 8000000 in
theorem dsee_calls (w : World) (F : Nat → Prop) (db : Nat) (L : List Wt) (sn : List S46) (hD : DQ w F db L sn) (A : Option Addr) (n c : Nat) (ys : List S46) (hC : Kd.C k46 w A n ys) (hl : n ≤ 1000000) : Calls Try.prog 21 #[.pointer (some ⟨db, 0, none⟩), .slice A n c] w fun e w' => e = .returned (.tuple #[]) ∧ DQ w' (fun k => F k ∨ w.heap.size ≤ k) db L ys ∧ Kp w w' F := by
  have hu30 := Try.underlying30
  have hu38 := Try.underlying38
  have hu39 := Try.underlying39
  have hu41 := Try.underlying41
  have hu69 := Try.underlying69
  have HC := Aside0.mk hC
  have HYL := Aside0.mk hl
  clear hC hl
  obtain ⟨vl, va, hD⟩ := hD
  have HD := Aside0.mk hD
  clear hD
  go_enter Try.func21, Try.ntmps21
  go_wp2_with (at_builtin; (refine Kd.R_append_rows k46 (Rr := k46.K w) (w0 := w) (W := w) 0 rfl (.tmp 6) (.tmp 7) 39 46 (.agg #[.int .i64 0, .int .i64 0, .int .i64 0, .int .i64 0, .int .i64 0]) 40 rfl Try.underlying39 info46 rfl (by decide) (by omega) (.slice none 0 0) [] ys A n c (fun k => F k ∨ w.heap.size ≤ k) (fun _ => False) rfl rfl (Kd.R_nil ..) HC.out ?hkm (fun _ hk => hk.elim) (fun k hk => .inr hk) (Below.refl 0 w) (Nat.zero_le _) (by have := HYL.out; simp; omega) ?_); (case hkm => intro x cs hx; obtain rfl := k46_open hx; exact k46_mkM _ _ _ x); intro v1 w1 hR hb hg hat; have hbb : Below w.heap.size w w1 := ⟨hb.os, hb.tape, hb.output, hg.size, fun k hk => hg.block k hk (fun e => by cases e)⟩; have HD1 : Aside0 (DAt w1 F db vl va L sn) := ⟨HD.out.below hbb⟩; have HK : Aside0 (Kp w w1 F) := ⟨Kp.of_below hbb F⟩; have HR : Aside0 (Kd.R k46 46 w1 0 (fun k => F k ∨ w.heap.size ≤ k) v1 ys) := ⟨hR⟩; clear hR hb hg hat hbb HD; have hfd := blk_frozen HD1.out.blk 1; have hcd : w1.cell? ⟨db, 1, none⟩ = some va := (blk_cell HD1.out.blk 1).trans rfl; obtain ⟨A1, c1, ev⟩ := Kd.R_slice HR.out; subst ev)
  go_end0
  refine ⟨rfl, ⟨vl, (.slice A1 ys.length c1), blk_put (cs := #[vl, va]) HD1.out.blk 1 _ rfl, Kd.R_set (Kd.R_mono HD1.out.list (fun k hk => .inl hk)) (cells := #[vl, va]) (t := 41) HD1.out.blk ne69_41 1 _, Kd.R_set HR.out (cells := #[vl, va]) (t := 41) HD1.out.blk ne46_41 1 _, .inl HD1.out.fd⟩, Kp.setCell HK.out (.inl HD1.out.fd) _⟩
set_option maxHeartbeats 8000000 in
theorem dput_calls (w : World) (F : Nat → Prop) (db : Nat) (L : List Wt) (sn : List S46) (hD : DQ w F db L sn) (hu : Uniq L) (c : S30) (n : Int) (hl : L.length ≤ 1000000) : Calls Try.prog 18 #[.pointer (some ⟨db, 0, none⟩), .agg #[.int .i64 c.f0, .int .i64 c.f1, .int .i64 c.f2], .int .i64 n] w fun e w' => e = .returned (.tuple #[]) ∧ DQ w' (fun k => F k ∨ w.heap.size ≤ k) db (putL L c n) sn ∧ Kp w w' F := by
  have hu30 := Try.underlying30
  have hu38 := Try.underlying38
  have hu39 := Try.underlying39
  have hu41 := Try.underlying41
  have hu69 := Try.underlying69
  have HLL := Aside0.mk hl
  have HU := Aside0.mk hu
  clear hl hu
  obtain ⟨vl, va, hD⟩ := hD
  have HD := Aside0.mk hD
  have HK : Aside0 (Kp w w F) := ⟨Kp.refl _ _⟩
  clear hD
  cases hlk : look L c with
  | none =>
    have HPN : Aside0 (posL L c = -1) := ⟨pos_no hlk⟩
    have HPP : Aside0 (L ++ [(c, n)] = putL L c n) := ⟨put_new hlk⟩
    clear hlk
    go_enter Try.func18, Try.ntmps18
    go_wp2_with (first | ((with_reducible refine gate_dst (N := 4) rfl ?_); refine box_event ?hg (N := 4) ?hd (cs := #[(.int .i64 c.f0), (.int .i64 c.f1), (.int .i64 c.f2)]) (t := 30) ?hr ?_; (case hd => rfl); (case hg => rfl); (case hr => first | (go_simp; done) | (go_simp; rfl)); intro gc hg w1 hbox hb; have GEgc : Aside0 (w.heap.size ≤ gc) := ⟨by rw [hg]; exact Nat.le_refl _⟩; have n0_ : Aside0 (Kp w w1 (F)) := ⟨(Kp.then_ HK.out (Kp.of_below hb (fun _ => False)) (fun _ h => h.elim))⟩; have n1_ : Aside0 (DAt w1 F db vl va L sn) := ⟨(DAt.below HD.out hb)⟩; clear HK HD; have HK := n0_; have HD := n1_; clear n0_ n1_; have BKgc : Aside0 (w1.heap[gc]? = some (.cells #[(.int .i64 c.f0), (.int .i64 c.f1), (.int .i64 c.f2)] 30 (0, 0))) := ⟨hbox⟩; clear hb hbox hg; have hzBKgc_0 : w1.cell? ⟨gc, 0, none⟩ = some ((.int .i64 c.f0)) := (blk_cell BKgc.out 0).trans rfl; have hfBKgc_0 := blk_frozen BKgc.out 0; have hzBKgc_1 : w1.cell? ⟨gc, 1, none⟩ = some ((.int .i64 c.f1)) := (blk_cell BKgc.out 1).trans rfl; have hfBKgc_1 := blk_frozen BKgc.out 1; have hzBKgc_2 : w1.cell? ⟨gc, 2, none⟩ = some ((.int .i64 c.f2)) := (blk_cell BKgc.out 2).trans rfl; have hfBKgc_2 := blk_frozen BKgc.out 2) | (go_at_call 31; (with_reducible refine (find_calls _ F db vl va L sn HD.out c HLL.out).mono ?_); rintro e w2 ⟨rfl, hb⟩; (try clear hzBKgc_0); (try clear hfBKgc_0); (try clear hzBKgc_1); (try clear hfBKgc_1); (try clear hzBKgc_2); (try clear hfBKgc_2); have n0_ : Aside0 (Kp w w2 (F)) := ⟨(Kp.then_ HK.out (Kp.of_below hb (fun _ => False)) (fun _ h => h.elim))⟩; have n1_ : Aside0 (DAt w2 F db vl va L sn) := ⟨(DAt.below HD.out hb)⟩; have n2_ : Aside0 (w2.heap[gc]? = some (.cells #[(.int .i64 c.f0), (.int .i64 c.f1), (.int .i64 c.f2)] 30 (0, 0))) := ⟨(blk_below BKgc.out hb)⟩; clear HK HD BKgc; have HK := n0_; have HD := n1_; have BKgc := n2_; clear n0_ n1_ n2_; clear hb; rw [HPN.out]))
    refine start_ (n := 13) (S := fun w' => w'.cell? ⟨db, 0, none⟩ = some vl ∧ w'.cell? ⟨gc, 0, none⟩ = some (.int .i64 c.f0) ∧ w'.cell? ⟨gc, 1, none⟩ = some (.int .i64 c.f1) ∧ w'.cell? ⟨gc, 2, none⟩ = some (.int .i64 c.f2)) (ds := [9, 12]) #[false, false, false, false, false, false, false, false, false, false, false, false, false] (by kernel_rfl) rfl rfl ⟨(blk_cell (blk_below HD.out.blk (by repeat (first | (with_reducible first | exact Below.refl _ _ | refine below_set ?_ (Nat.le_refl _) | apply below_alloc | apply below_drew1) | refine below_set ?_ (Nat.le_refl _)))) 0).trans rfl, (blk_cell (blk_below BKgc.out (by repeat (first | (with_reducible first | exact Below.refl _ _ | refine below_set ?_ (Nat.le_refl _) | apply below_alloc | apply below_drew1) | refine below_set ?_ (Nat.le_refl _)))) 0).trans rfl, (blk_cell (blk_below BKgc.out (by repeat (first | (with_reducible first | exact Below.refl _ _ | refine below_set ?_ (Nat.le_refl _) | apply below_alloc | apply below_drew1) | refine below_set ?_ (Nat.le_refl _)))) 1).trans rfl, (blk_cell (blk_below BKgc.out (by repeat (first | (with_reducible first | exact Below.refl _ _ | refine below_set ?_ (Nat.le_refl _) | apply below_alloc | apply below_drew1) | refine below_set ?_ (Nat.le_refl _)))) 2).trans rfl⟩ (fun hHeld => ?_)
    refine pure_ (i := 0) (N := some 12) (v := ?_) (a' := ?_) #[true, false, false, false, false, false, false, false, false, false, false, false, false] rfl rfl (by kernel_rfl) (fun _ _ _ h => h) (Or.inl ⟨by rfl, ?_⟩) ?_ ?_
    rotate_left
    · intro w'
      go_simp
      with_reducible rfl
    rotate_left
    · simp only [Act.put, List.setIfInBounds_toArray, List.set_cons_zero, List.set_cons_succ, i64_w, i32_w]
      rfl
    refine pure_ (i := 1) (N := some 13) (v := ?_) (a' := ?_) #[true, true, false, false, false, false, false, false, false, false, false, false, false] rfl rfl (by kernel_rfl) (fun _ _ _ h => h) (Or.inl ⟨by rfl, ?_⟩) ?_ ?_
    rotate_left
    · intro w'
      go_simp
      with_reducible rfl
    rotate_left
    · simp only [Act.put, List.setIfInBounds_toArray, List.set_cons_zero, List.set_cons_succ, i64_w, i32_w]
      rfl
    refine pure_ (i := 2) (N := some 14) (v := ?_) (a' := ?_) #[true, true, true, false, false, false, false, false, false, false, false, false, false] rfl rfl (by kernel_rfl) (fun _ _ _ h => h) (Or.inl ⟨by rfl, ?_⟩) ?_ ?_
    rotate_left
    · intro w'
      go_simp
      with_reducible rfl
    rotate_left
    · simp only [Act.put, List.setIfInBounds_toArray, List.set_cons_zero, List.set_cons_succ, i64_w, i32_w]
      rfl
    refine pure_ (i := 3) (N := some 15) (v := ?_) (a' := ?_) #[true, true, true, true, false, false, false, false, false, false, false, false, false] rfl rfl (by kernel_rfl) (fun _ _ _ h => h) (Or.inl ⟨by rfl, ?_⟩) ?_ ?_
    rotate_left
    · intro w'
      go_simp
      with_reducible rfl
    rotate_left
    · simp only [Act.put, List.setIfInBounds_toArray, List.set_cons_zero, List.set_cons_succ, i64_w, i32_w]
      rfl
    refine pure_ (i := 6) (N := some 18) (v := ?_) (a' := ?_) #[true, true, true, true, false, false, true, false, false, false, false, false, false] rfl rfl (by kernel_rfl) (fun _ _ _ h => h) (Or.inl ⟨by rfl, ?_⟩) ?_ ?_
    rotate_left
    · intro w'
      go_simp
      with_reducible rfl
    rotate_left
    · simp only [Act.put, List.setIfInBounds_toArray, List.set_cons_zero, List.set_cons_succ, i64_w, i32_w]
      rfl
    refine take_ (i := 4) (N := some 16) (v := ?_) (a' := ?_) #[true, true, true, true, true, false, true, false, false, false, false, false, false] rfl rfl (by kernel_rfl) (fun _ _ _ h => h) (Or.inl ⟨by rfl, ?_⟩) hHeld ?_ ?_
    rotate_left
    · rintro w' ⟨s0, s1, s2, s3⟩
      go_simp
      with_reducible rfl
    rotate_left
    · simp only [Act.put, List.setIfInBounds_toArray, List.set_cons_zero, List.set_cons_succ, i64_w, i32_w]
      rfl
    refine take_ (i := 5) (N := some 17) (v := ?_) (a' := ?_) #[true, true, true, true, true, true, true, false, false, false, false, false, false] rfl rfl (by kernel_rfl) (fun _ _ _ h => h) (Or.inl ⟨by rfl, ?_⟩) hHeld ?_ ?_
    rotate_left
    · rintro w' ⟨s0, s1, s2, s3⟩
      go_simp
      with_reducible rfl
    rotate_left
    · simp only [Act.put, List.setIfInBounds_toArray, List.set_cons_zero, List.set_cons_succ, i64_w, i32_w]
      rfl
    refine pure_ (i := 7) (N := some 19) (v := ?_) (a' := ?_) #[true, true, true, true, true, true, true, true, false, false, false, false, false] rfl rfl (by kernel_rfl) (fun _ _ _ h => h) (Or.inl ⟨by rfl, ?_⟩) ?_ ?_
    rotate_left
    · intro w'
      go_simp
      with_reducible rfl
    rotate_left
    · simp only [Act.put, List.setIfInBounds_toArray, List.set_cons_zero, List.set_cons_succ, i64_w, i32_w]
      rfl
    refine one_ (i := 8) (N := some 20) #[true, true, true, true, true, true, true, true, true, false, false, false, false] rfl rfl (by kernel_rfl) (by decide) (fun K hK => ?_)
    refine value_ (w1 := ?_) (v := ?_) (by rfl) rfl ?_ ?_
    rotate_left 2
    · go_simp
      constructor
      · rfl
      · rfl
    refine hK.out _ _ ⟨(blk_cell (blk_below HD.out.blk (by repeat (first | (with_reducible first | exact Below.refl _ _ | refine below_set ?_ (Nat.le_refl _) | apply below_alloc | apply below_drew1) | refine below_set ?_ (Nat.le_refl _)))) 0).trans rfl, (blk_cell (blk_below BKgc.out (by repeat (first | (with_reducible first | exact Below.refl _ _ | refine below_set ?_ (Nat.le_refl _) | apply below_alloc | apply below_drew1) | refine below_set ?_ (Nat.le_refl _)))) 0).trans rfl, (blk_cell (blk_below BKgc.out (by repeat (first | (with_reducible first | exact Below.refl _ _ | refine below_set ?_ (Nat.le_refl _) | apply below_alloc | apply below_drew1) | refine below_set ?_ (Nat.le_refl _)))) 1).trans rfl, (blk_cell (blk_below BKgc.out (by repeat (first | (with_reducible first | exact Below.refl _ _ | refine below_set ?_ (Nat.le_refl _) | apply below_alloc | apply below_drew1) | refine below_set ?_ (Nat.le_refl _)))) 2).trans rfl⟩ (fun hHeld => ?_)
    clear hK K
    refine norm_ (a' := ?_) ?_ ?_
    rotate_left
    · show Act.put _ (some 20) _ = _
      simp only [Act.put, List.setIfInBounds_toArray, List.set_cons_zero, List.set_cons_succ, i64_w, i32_w]
      rfl
    refine last_ (i := 9) (N := some 21) #[true, true, true, true, true, true, true, true, true, true, false, false, false] rfl rfl (by kernel_rfl) (by decide) (fun K hK => ?_)
    refine Kd.R_append_step k69 (w0 := w2) (W := w2.drew) 0 (by rfl) (.tmp 16) (.tmp 20) 38 69 (.agg #[.int .i64 0, .int .i64 0, .int .i64 0, .int .i64 0]) 32 rfl Try.underlying38 info69 rfl (by decide) (by omega) vl L (c, n) (wc4 (c, n)) (fun k => F k ∨ w.heap.size ≤ k) (fun _ => False) (by rfl) (by rfl) (k69_mkM _ _ _ (c, n)) (fun _ hk => hk.elim) (fun k hk => .inr (Nat.le_trans HK.out.size hk)) (Kd.R_drew (Kd.R_mono HD.out.list (fun k hk => .inl hk))) (below_drew1 (Below.refl 0 w2)) (Nat.zero_le _) (by have := HLL.out; omega) ?_
    intro v1 w3 hR hb hg hat
    rw [HPP.out] at hR
    obtain ⟨A1, c1, ev⟩ := Kd.R_slice hR
    subst ev
    have HR3 := Aside0.mk hR
    have HQ3 : Aside0 (w3.heap[db]? = some (.cells #[vl, va] 41 (0, 0))) := ⟨blk_grown (w := w2.drew) HD.out.blk hg (Kd.R_ne HD.out.list HD.out.blk (by decide))⟩
    have HV3 : Aside0 (Kd.R k46 46 w3 0 F va sn) := ⟨Kd.R_over (Kd.R_drew HD.out.seen) (Kd.R_drew HD.out.list) ne69 hg⟩
    have HK3 : Aside0 (Kp w w3 F) := ⟨Kp.then_ (Kp.drew HK.out) (Kp.of_grown (S := fun k => some k = vl.ownBlock) (w := w2.drew) hg (fun k hk => hk.symm)) (fun k hk => .inl (HD.out.list.1 k hk.symm))⟩
    clear hR hb hg hat
    have hcq : w3.cell? ⟨db, 0, none⟩ = some vl := (blk_cell HQ3.out 0).trans rfl
    have hfq := blk_frozen HQ3.out 0
    refine hK.out _ _ ?_
    clear hK K
    refine norm_ (a' := ?_) ?_ ?_
    rotate_left
    · show Act.put _ (some 21) _ = _
      simp only [Act.put, List.setIfInBounds_toArray, List.set_cons_zero, List.set_cons_succ, i64_w, i32_w]
      rfl
    refine pure_ (i := 10) (N := some 22) (v := ?_) (a' := ?_) #[true, true, true, true, true, true, true, true, true, true, true, false, false] rfl rfl (by kernel_rfl) (fun _ _ _ h => h) (Or.inl ⟨by rfl, ?_⟩) ?_ ?_
    rotate_left
    · intro w'
      go_simp
      with_reducible rfl
    rotate_left
    · simp only [Act.put, List.setIfInBounds_toArray, List.set_cons_zero, List.set_cons_succ, i64_w, i32_w]
      rfl
    refine pure_ (i := 11) (N := some 23) (v := ?_) (a' := ?_) #[true, true, true, true, true, true, true, true, true, true, true, true, false] rfl rfl (by kernel_rfl) (fun _ _ _ h => h) (Or.inl ⟨by rfl, ?_⟩) ?_ ?_
    rotate_left
    · intro w'
      go_simp
      with_reducible rfl
    rotate_left
    · simp only [Act.put, List.setIfInBounds_toArray, List.set_cons_zero, List.set_cons_succ, i64_w, i32_w]
      rfl
    refine last_ (i := 12) (N := none) #[true, true, true, true, true, true, true, true, true, true, true, true, true] rfl rfl (by kernel_rfl) (by decide) (fun K hK => ?_)
    refine skip_ (w1 := ?_) (by rfl) rfl ?_ ?_
    rotate_left
    · go_simp
      rfl
    refine hK.out _ _ ?_
    clear hK K
    refine done_ (by kernel_rfl) ?_
    clear hcq hfq
    have HFD := HD.out.fd
    clear HD HK
    go_wp2
    (try simp only [Exit.inBlock, Exit.then])
    refine bodyPost_ret (results_none rfl _ _ _) rfl ?_
    exact ⟨rfl, ⟨_, va, blk_put (cs := #[vl, va]) HQ3.out 0 _ rfl, Kd.R_set HR3.out (cells := #[vl, va]) (t := 41) HQ3.out ne69_41 0 _, Kd.R_set (Kd.R_mono HV3.out (fun k hk => .inl hk)) (cells := #[vl, va]) (t := 41) HQ3.out ne46_41 0 _, .inl HFD⟩, Kp.setCell HK3.out (.inl HFD) _⟩
  | some m =>
    obtain ⟨i, hi, hg, hpos⟩ := pos_some HU.out hlk
    have HPN := Aside0.mk hpos
    have HI := Aside0.mk hi
    have HG := Aside0.mk hg
    obtain ⟨A, cap, ev⟩ := Kd.R_slice HD.out.list
    subst ev
    obtain ⟨g, cap2, hv, _, _, _⟩ := Kd.R_form HD.out.list (by have := HI.out; omega)
    injection hv with hA _ hc2
    subst hA
    subst hc2
    clear hlk hi hg hpos
    go_enter Try.func18, Try.ntmps18
    go_wp2_with (first | ((with_reducible refine gate_dst (N := 4) rfl ?_); refine box_event ?hg (N := 4) ?hd (cs := #[(.int .i64 c.f0), (.int .i64 c.f1), (.int .i64 c.f2)]) (t := 30) ?hr ?_; (case hd => rfl); (case hg => rfl); (case hr => first | (go_simp; done) | (go_simp; rfl)); intro gc hg w1 hbox hb; have GEgc : Aside0 (w.heap.size ≤ gc) := ⟨by rw [hg]; exact Nat.le_refl _⟩; have n0_ : Aside0 (Kp w w1 (F)) := ⟨(Kp.then_ HK.out (Kp.of_below hb (fun _ => False)) (fun _ h => h.elim))⟩; have n1_ : Aside0 (DAt w1 F db (.slice (some ⟨g, 0, none⟩) L.length cap) va L sn) := ⟨(DAt.below HD.out hb)⟩; clear HK HD; have HK := n0_; have HD := n1_; clear n0_ n1_; have BKgc : Aside0 (w1.heap[gc]? = some (.cells #[(.int .i64 c.f0), (.int .i64 c.f1), (.int .i64 c.f2)] 30 (0, 0))) := ⟨hbox⟩; clear hb hbox hg; have hzBKgc_0 : w1.cell? ⟨gc, 0, none⟩ = some ((.int .i64 c.f0)) := (blk_cell BKgc.out 0).trans rfl; have hfBKgc_0 := blk_frozen BKgc.out 0; have hzBKgc_1 : w1.cell? ⟨gc, 1, none⟩ = some ((.int .i64 c.f1)) := (blk_cell BKgc.out 1).trans rfl; have hfBKgc_1 := blk_frozen BKgc.out 1; have hzBKgc_2 : w1.cell? ⟨gc, 2, none⟩ = some ((.int .i64 c.f2)) := (blk_cell BKgc.out 2).trans rfl; have hfBKgc_2 := blk_frozen BKgc.out 2) | (go_at_call 31; (with_reducible refine (find_calls _ F db _ va L sn HD.out c HLL.out).mono ?_); rintro e w2 ⟨rfl, hb⟩; (try clear hzBKgc_0); (try clear hfBKgc_0); (try clear hzBKgc_1); (try clear hfBKgc_1); (try clear hzBKgc_2); (try clear hfBKgc_2); have n0_ : Aside0 (Kp w w2 (F)) := ⟨(Kp.then_ HK.out (Kp.of_below hb (fun _ => False)) (fun _ h => h.elim))⟩; have n1_ : Aside0 (DAt w2 F db (.slice (some ⟨g, 0, none⟩) L.length cap) va L sn) := ⟨(DAt.below HD.out hb)⟩; have n2_ : Aside0 (w2.heap[gc]? = some (.cells #[(.int .i64 c.f0), (.int .i64 c.f1), (.int .i64 c.f2)] 30 (0, 0))) := ⟨(blk_below BKgc.out hb)⟩; clear HK HD BKgc; have HK := n0_; have HD := n1_; have BKgc := n2_; clear n0_ n1_ n2_; clear hb; rw [HPN.out]; obtain ⟨c4, hc4, _, hcc, _⟩ := Kd.R_elem HD.out.list zWt (i : Int) (by omega) (by have := HI.out; omega); have HC4 := Aside0.mk hc4; have HCC := Aside0.mk hcc; have hcx : c4 = wc4 (c, m) := (by obtain ⟨c5, hc5, hM, hcc5, _⟩ := Kd.R_elem HD.out.list zWt (i : Int) (by omega) (by have := HI.out; omega); have h5 := k69_open (k69.K_of_M hM); rw [Int.toNat_natCast, HG.out] at h5; refine List.ext_getElem? (fun j => ?_); by_cases hj : j < 4; (have a1 : c4[j]? = some (c4[j]'(by rw [hc4]; exact hj)) := List.getElem?_eq_getElem _; have a2 := hcc j _ a1; have b1 : c5[j]? = some (c5[j]'(by rw [hc5]; exact hj)) := List.getElem?_eq_getElem _; have b2 := hcc5 j _ b1; rw [b2] at a2; rw [a1, ← h5, b1]; exact a2.symm); (rw [List.getElem?_eq_none (by rw [hc4]; exact Nat.le_of_not_lt hj), List.getElem?_eq_none (by exact Nat.le_of_not_lt hj)])); have HCX := Aside0.mk hcx; clear hc4 hcc hcx; have hd0 : w2.cell? ⟨db, 0, none⟩ = some (.slice (some ⟨g, 0, none⟩) L.length cap) := (blk_cell HD.out.blk 0).trans rfl; have i1 : (i : Int) < (L.length : Int) := (by have := HI.out; omega); have i0 : (0 : Int) ≤ (i : Int) := (by omega); have i1n := HI.out; have i1b := decide_eq_true i1; have i0b := decide_eq_true i0; have i1t := eq_true i1; have i0t := eq_true i0; have i1nt := eq_true i1n; have i1nb := decide_eq_true i1n; have inn : ((i : Int) < 0) = False := eq_false (by omega); clear i1 i0 i1n) | ((with_reducible refine gate_ (.store 3 (.tmp 31) (.tmp 29)) rfl ?_); refine Kd.R_store k69 (w0 := w2) (W := w2) (g := g) (n := L.length) (cap := cap) 0 rfl rfl 3 (.tmp 31) (.tmp 29) rfl 69 (i : Int) 3 L (c, n) (.int .i64 n) [.int .i64 n] c4 F (fun _ => False) rfl ?hoff rfl rfl ?ht (one_i _) HD.out.list (by omega) (by have := HI.out; omega) HC4.out HCC.out (by exact Nat.le_refl 4) ?hM (fun _ h => h.elim) (Below.refl 0 w2) ?_; (case hoff => first | rfl | (show _ = (i : Int).toNat * 4 + 3; omega) | (rw [Int.toNat_natCast]; rfl)); (case ht => kernel_rfl); (case hM => show k69.M w2 0 _ _ (c4.take 3 ++ [.int .i64 n] ++ c4.drop 4); rw [HCX.out]; exact k69_mkM _ _ _ (c, n)); intro w3 hR hb hg; rw [Int.toNat_natCast, put_set HU.out HI.out HG.out] at hR; have HR3 := Aside0.mk hR; have HQ3 : Aside0 (w3.heap[db]? = some (.cells #[(.slice (some ⟨g, 0, none⟩) L.length cap), va] 41 (0, 0))) := ⟨blk_grown HD.out.blk hg (Kd.R_ne HD.out.list HD.out.blk (by decide))⟩; have HV3 : Aside0 (Kd.R k46 46 w3 0 F va sn) := ⟨Kd.R_over HD.out.seen HD.out.list ne69 hg⟩; have HK3 : Aside0 (Kp w w3 F) := ⟨Kp.then_ HK.out (Kp.of_grown (S := fun k => k = g) hg (fun k hk => by cases hk; rfl)) (fun k hk => .inl (by rw [hk]; exact HD.out.list.1 g rfl))⟩; have HFD := Aside0.mk HD.out.fd; clear hR hb hg HD HK hd0))
    go_end0
    have hlen : (putL L c n).length = L.length := by rw [← put_set HU.out HI.out HG.out, List.length_set]
    exact ⟨rfl, ⟨_, va, HQ3.out, Kd.R_mono HR3.out (fun k hk => .inl hk), Kd.R_mono HV3.out (fun k hk => .inl hk), .inl HFD.out⟩, HK3.out⟩
set_option maxHeartbeats 8000000 in
theorem ddrop_calls (w : World) (F : Nat → Prop) (db : Nat) (L : List Wt) (sn : List S46) (hD : DQ w F db L sn) (hu : Uniq L) (hF : ∀ k, F k → k < w.heap.size) (c : S30) (hl : L.length ≤ 1000000) : Calls Try.prog 19 #[.pointer (some ⟨db, 0, none⟩), .agg #[.int .i64 c.f0, .int .i64 c.f1, .int .i64 c.f2]] w fun e w' => e = .returned (.bool (look L c).isSome) ∧ DQ w' (fun k => F k ∨ w.heap.size ≤ k) db (dropL L c) sn ∧ Kp w w' F := by
  have hu30 := Try.underlying30
  have hu38 := Try.underlying38
  have hu39 := Try.underlying39
  have hu41 := Try.underlying41
  have hu69 := Try.underlying69
  have HLL := Aside0.mk hl
  have HU := Aside0.mk hu
  have HFB : Aside0 (∀ k, F k → ∀ {n : Nat}, w.heap.size ≤ n → k < n) := ⟨fun k hk _ hn => Nat.lt_of_lt_of_le (hF k hk) hn⟩
  clear hl hu hF
  obtain ⟨vl, va, hD⟩ := hD
  have HD := Aside0.mk hD
  have HK : Aside0 (Kp w w F) := ⟨Kp.refl _ _⟩
  clear hD
  cases hlk : look L c with
  | none =>
    have HPN : Aside0 (posL L c = -1) := ⟨pos_no hlk⟩
    have HPP : Aside0 (dropL L c = L) := ⟨dropL_none hlk⟩
    clear hlk
    go_enter Try.func19, Try.ntmps19
    go_wp2_with (first | ((with_reducible refine gate_dst (N := 3) rfl ?_); refine box_event ?hg (N := 3) ?hd (cs := #[(.int .i64 c.f0), (.int .i64 c.f1), (.int .i64 c.f2)]) (t := 30) ?hr ?_; (case hd => rfl); (case hg => rfl); (case hr => first | (go_simp; done) | (go_simp; rfl)); intro gc hg w1 hbox hb; have GEgc : Aside0 (w.heap.size ≤ gc) := ⟨by rw [hg]; exact Nat.le_refl _⟩; have n0_ : Aside0 (Kp w w1 (F)) := ⟨(Kp.then_ HK.out (Kp.of_below hb (fun _ => False)) (fun _ h => h.elim))⟩; have n1_ : Aside0 (DAt w1 F db vl va L sn) := ⟨(DAt.below HD.out hb)⟩; clear HK HD; have HK := n0_; have HD := n1_; clear n0_ n1_; have BKgc : Aside0 (w1.heap[gc]? = some (.cells #[(.int .i64 c.f0), (.int .i64 c.f1), (.int .i64 c.f2)] 30 (0, 0))) := ⟨hbox⟩; clear hb hbox hg; have hzBKgc_0 : w1.cell? ⟨gc, 0, none⟩ = some ((.int .i64 c.f0)) := (blk_cell BKgc.out 0).trans rfl; have hfBKgc_0 := blk_frozen BKgc.out 0; have hzBKgc_1 : w1.cell? ⟨gc, 1, none⟩ = some ((.int .i64 c.f1)) := (blk_cell BKgc.out 1).trans rfl; have hfBKgc_1 := blk_frozen BKgc.out 1; have hzBKgc_2 : w1.cell? ⟨gc, 2, none⟩ = some ((.int .i64 c.f2)) := (blk_cell BKgc.out 2).trans rfl; have hfBKgc_2 := blk_frozen BKgc.out 2) | (go_at_call 31; (with_reducible refine (find_calls _ F db vl va L sn HD.out c HLL.out).mono ?_); rintro e w2 ⟨rfl, hb⟩; (try clear hzBKgc_0); (try clear hfBKgc_0); (try clear hzBKgc_1); (try clear hfBKgc_1); (try clear hzBKgc_2); (try clear hfBKgc_2); have n0_ : Aside0 (Kp w w2 (F)) := ⟨(Kp.then_ HK.out (Kp.of_below hb (fun _ => False)) (fun _ h => h.elim))⟩; have n1_ : Aside0 (DAt w2 F db vl va L sn) := ⟨(DAt.below HD.out hb)⟩; have n2_ : Aside0 (w2.heap[gc]? = some (.cells #[(.int .i64 c.f0), (.int .i64 c.f1), (.int .i64 c.f2)] 30 (0, 0))) := ⟨(blk_below BKgc.out hb)⟩; clear HK HD BKgc; have HK := n0_; have HD := n1_; have BKgc := n2_; clear n0_ n1_ n2_; clear hb; rw [HPN.out]))
    go_ret
    exact ⟨rfl, ⟨vl, va, by rw [HPP.out]; exact HD.out.mono (fun k hk => .inl hk)⟩, HK.out⟩
  | some m =>
    obtain ⟨i, hi, hg, hpos⟩ := pos_some HU.out hlk
    have HPN := Aside0.mk hpos
    have HI := Aside0.mk hi
    have HG := Aside0.mk hg
    obtain ⟨A, cap, ev⟩ := Kd.R_slice HD.out.list
    subst ev
    obtain ⟨g, cap2, hv, _, _, _⟩ := Kd.R_form HD.out.list (by have := HI.out; omega)
    injection hv with hA _ hc2
    subst hA
    subst hc2
    clear hlk hi hg hpos
    go_enter Try.func19, Try.ntmps19
    go_wp2_with (first | ((with_reducible refine gate_dst (N := 3) rfl ?_); refine box_event ?hg (N := 3) ?hd (cs := #[(.int .i64 c.f0), (.int .i64 c.f1), (.int .i64 c.f2)]) (t := 30) ?hr ?_; (case hd => rfl); (case hg => rfl); (case hr => first | (go_simp; done) | (go_simp; rfl)); intro gc hg w1 hbox hb; have GEgc : Aside0 (w.heap.size ≤ gc) := ⟨by rw [hg]; exact Nat.le_refl _⟩; have n0_ : Aside0 (Kp w w1 (F)) := ⟨(Kp.then_ HK.out (Kp.of_below hb (fun _ => False)) (fun _ h => h.elim))⟩; have n1_ : Aside0 (DAt w1 F db (.slice (some ⟨g, 0, none⟩) L.length cap) va L sn) := ⟨(DAt.below HD.out hb)⟩; clear HK HD; have HK := n0_; have HD := n1_; clear n0_ n1_; have BKgc : Aside0 (w1.heap[gc]? = some (.cells #[(.int .i64 c.f0), (.int .i64 c.f1), (.int .i64 c.f2)] 30 (0, 0))) := ⟨hbox⟩; clear hb hbox hg; have hzBKgc_0 : w1.cell? ⟨gc, 0, none⟩ = some ((.int .i64 c.f0)) := (blk_cell BKgc.out 0).trans rfl; have hfBKgc_0 := blk_frozen BKgc.out 0; have hzBKgc_1 : w1.cell? ⟨gc, 1, none⟩ = some ((.int .i64 c.f1)) := (blk_cell BKgc.out 1).trans rfl; have hfBKgc_1 := blk_frozen BKgc.out 1; have hzBKgc_2 : w1.cell? ⟨gc, 2, none⟩ = some ((.int .i64 c.f2)) := (blk_cell BKgc.out 2).trans rfl; have hfBKgc_2 := blk_frozen BKgc.out 2) | (go_at_call 31; (with_reducible refine (find_calls _ F db _ va L sn HD.out c HLL.out).mono ?_); rintro e w2 ⟨rfl, hb⟩; (try clear hzBKgc_0); (try clear hfBKgc_0); (try clear hzBKgc_1); (try clear hfBKgc_1); (try clear hzBKgc_2); (try clear hfBKgc_2); have n0_ : Aside0 (Kp w w2 (F)) := ⟨(Kp.then_ HK.out (Kp.of_below hb (fun _ => False)) (fun _ h => h.elim))⟩; have n1_ : Aside0 (DAt w2 F db (.slice (some ⟨g, 0, none⟩) L.length cap) va L sn) := ⟨(DAt.below HD.out hb)⟩; have n2_ : Aside0 (w2.heap[gc]? = some (.cells #[(.int .i64 c.f0), (.int .i64 c.f1), (.int .i64 c.f2)] 30 (0, 0))) := ⟨(blk_below BKgc.out hb)⟩; clear HK HD BKgc; have HK := n0_; have HD := n1_; have BKgc := n2_; clear n0_ n1_ n2_; clear hb; rw [HPN.out]; have hd0 : w2.cell? ⟨db, 0, none⟩ = some (.slice (some ⟨g, 0, none⟩) L.length cap) := (blk_cell HD.out.blk 0).trans rfl; have hwe : wrap64 ((i : Int) + 1) = ((i + 1 : Nat) : Int) := (by have := HI.out; have := HLL.out; rw [w64 (by omega) (by omega)]; omega); have i1 : (i : Int) < (L.length : Int) := (by have := HI.out; omega); have i0 : (0 : Int) ≤ (i : Int) := (by omega); have i1n := HI.out; have i1b := decide_eq_true i1; have i0b := decide_eq_true i0; have i1t := eq_true i1; have i0t := eq_true i0; have i1nt := eq_true i1n; have i1nb := decide_eq_true i1n; have inn : ((i : Int) < 0) = False := eq_false (by omega); clear i1 i0 i1n; have hLC := (Kd.R_reads' HD.out.list).2.1; obtain ⟨i0, hi0, _, hsz, _⟩ := info_parts info69; have hcutA := cut_to (P := Try.prog) 38 69 .i64 Try.underlying38 hi0 (some ⟨g, 0, none⟩) L.length cap (i : Int) (by omega) (by have := HI.out; omega) hLC; have hcutB : ∀ W : World, (Instr.slice 38 (.slice (some ⟨g, 0, none⟩) L.length cap) (some (.int .i64 (wrap64 ((i : Int) + 1)))) none none).run Try.prog W = .ok (.slice (if cap = i + 1 then some ⟨g, 0, none⟩ else some ⟨g, (i + 1) * 4, none⟩) (L.length - (i + 1)) (cap - (i + 1))) W := (by rw [hwe]; intro W; have h := cut_from (P := Try.prog) 38 69 .i64 Try.underlying38 hi0 4 hsz (some ⟨g, 0, none⟩) L.length cap ((i + 1 : Nat) : Int) (by omega) (by have := HI.out; omega) W; rw [Int.toNat_natCast] at h; have he : (some ⟨g, 0, none⟩ : Option Addr).map (·.add ((i + 1) * 4)) = some ⟨g, (i + 1) * 4, none⟩ := (by simp [Addr.add]); rwa [he] at h); rw [Int.toNat_natCast] at hcutA; clear hwe; have HLC := Aside0.mk hLC; clear hLC hi0 hsz) | (at_builtin; (refine Kd.R_append_rows k69 (Rr := k69.K w2) (w0 := w2) (W := w2) 0 rfl (.tmp 12) (.tmp 18) 38 69 (.agg #[.int .i64 0, .int .i64 0, .int .i64 0, .int .i64 0]) 32 rfl Try.underlying38 info69 rfl (by decide) (by omega) (.slice none 0 0) [] (L.take i) (some ⟨g, 0, none⟩) i cap (fun k => w2.heap.size ≤ k) (fun _ => False) rfl rfl (Kd.R_nil ..) ?hrr ?hkm (fun _ hk => hk.elim) (fun k hk => hk) (Below.refl 0 w2) (Nat.zero_le _) (by have := HLL.out; have := HI.out; simp; omega) ?_); (case hrr => have hz := Kd.C_take (m := i) (Kd.R_reads' HD.out.list).2.2 (by have := HI.out; omega); rwa [List.length_take_of_le (by have := HI.out; omega)] at hz); (case hkm => intro x cs hx; exact k69_K _ _ hx _ _); intro v1 w3 hR hb hg hat; have hbb : Below w2.heap.size w2 w3 := ⟨hb.os, hb.tape, hb.output, hg.size, fun k hk => hg.block k hk (fun e => by cases e)⟩; have n0_ : Aside0 (DAt w3 F db (.slice (some ⟨g, 0, none⟩) L.length cap) va L sn) := ⟨HD.out.below hbb⟩; have n1_ : Aside0 (Kp w w3 F) := ⟨Kp.then_ HK.out (Kp.of_below hbb (fun _ => False)) (fun _ h => h.elim)⟩; have HR : Aside0 (Kd.R k69 69 w3 0 (fun k => w.heap.size ≤ k ∧ ¬ F k) v1 (L.take i)) := ⟨Kd.R_mono hR (fun k hk => ⟨Nat.le_trans HK.out.size hk, fun hF => Nat.lt_irrefl _ (Nat.lt_of_le_of_lt hk (HFB.out k hF HK.out.size))⟩)⟩; clear hR hb hg hat hbb HD HK hd0; have HD := n0_; have HK := n1_; clear n0_ n1_; have hd0 : w3.cell? ⟨db, 0, none⟩ = some (.slice (some ⟨g, 0, none⟩) L.length cap) := (blk_cell HD.out.blk 0).trans rfl) | (at_builtin; (refine Kd.R_append_rows k69 (Rr := k69.K w3) (w0 := w3) (W := w3) 0 rfl (.tmp 21) (.tmp 28) 38 69 (.agg #[.int .i64 0, .int .i64 0, .int .i64 0, .int .i64 0]) 32 rfl Try.underlying38 info69 rfl (by decide) (by omega) v1 (L.take i) (L.drop (i + 1)) (if cap = i + 1 then some ⟨g, 0, none⟩ else some ⟨g, (i + 1) * 4, none⟩) (L.length - (i + 1)) (cap - (i + 1)) (fun k => w.heap.size ≤ k) (fun _ => False) rfl rfl (Kd.R_mono HR.out (fun k hk => hk.1)) ?hrr ?hkm (fun _ hk => hk.elim) (fun k hk => Nat.le_trans HK.out.size hk) (Below.refl 0 w3) (Nat.zero_le _) (by have := HLL.out; have := HI.out; rw [List.length_take_of_le (by omega)]; omega) ?_); (case hrr => have hz := Kd.C_drop (m := i + 1) (c := cap) (Kd.R_reads' HD.out.list).2.2 (by have := HI.out; omega) HLC.out; rw [List.length_drop] at hz; have he : (if cap = i + 1 then some ⟨g, 0, none⟩ else (some ⟨g, 0, none⟩ : Option Addr).map (·.add ((i + 1) * k69.sz))) = (if cap = i + 1 then some ⟨g, 0, none⟩ else some ⟨g, (i + 1) * 4, none⟩) := (by simp [Addr.add, show k69.sz = 4 from rfl]); rwa [he] at hz); (case hkm => intro x cs hx; exact k69_K _ _ hx _ _); intro v2 w4 hR hb hg hat; rw [drop_cut HU.out HI.out HG.out] at hR; obtain ⟨A2, c2, ev⟩ := Kd.R_slice hR; subst ev; have HR4 : Aside0 (Kd.R k69 69 w4 0 (fun k => F k ∨ w.heap.size ≤ k) (.slice A2 (dropL L c).length c2) (dropL L c)) := ⟨Kd.R_mono hR (fun k hk => .inr hk)⟩; have hne : ∀ k, v1.ownBlock = some k → ¬ F k := fun k e => (HR.out.1 k e).2; have HD1 : Aside0 (DAt w4 F db (.slice (some ⟨g, 0, none⟩) L.length cap) va L sn) := ⟨HD.out.move (fun k hF hk => hg.block k hk (fun e => hne k e.symm hF))⟩; have HK4 : Aside0 (Kp w w4 F) := ⟨Kp.then_ HK.out (Kp.of_grown (S := fun k => w.heap.size ≤ k) hg (fun k e => (HR.out.1 k e).1)) (fun k hk => .inr hk)⟩; clear hR hb hg hat hne HR HD HK hd0; have hfd := blk_frozen HD1.out.blk 0; have hcd : w4.cell? ⟨db, 0, none⟩ = some (.slice (some ⟨g, 0, none⟩) L.length cap) := (blk_cell HD1.out.blk 0).trans rfl))
    all_goals (go_ret; exact ⟨rfl, ⟨_, va, blk_put (cs := #[(.slice (some ⟨g, 0, none⟩) L.length cap), va]) HD1.out.blk 0 _ rfl, Kd.R_set HR4.out (cells := #[(.slice (some ⟨g, 0, none⟩) L.length cap), va]) (t := 41) HD1.out.blk ne69_41 0 _, Kd.R_set (Kd.R_mono HD1.out.seen (fun k hk => .inl hk)) (cells := #[(.slice (some ⟨g, 0, none⟩) L.length cap), va]) (t := 41) HD1.out.blk ne46_41 0 _, .inl HD1.out.fd⟩, Kp.setCell HK4.out (.inl HD1.out.fd) _⟩)
end Go.Proofs.Ytgkbcgmcpbbneaa.Q
