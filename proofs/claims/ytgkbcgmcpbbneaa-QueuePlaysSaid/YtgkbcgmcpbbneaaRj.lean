/- The walk of the document's queue: First. -/
import Derived.Test.YtgkbcgmcpbbneaaRh
namespace Go.Proofs.Ytgkbcgmcpbbneaa.Q
open Go Go.RowKit Go.Maps Go.Proofs.YtgkbcgmcpbbneaaW.PrintWords Go.Proofs.YtgkbcgmcpbbneaaW.PrintLast Go.Proofs.YtgkbcgmcpbbneaaW.PrintMore
set_option maxRecDepth 100000
set_option linter.unusedVariables false
set_option linter.unusedSimpArgs false
attribute [local go_sem high] eqA30
theorem ents_w {L : List Wt} (hu : Uniq L) (sn : List S46) : entsOf L sn = L.map (entW sn) := by
  unfold entsOf
  refine List.map_congr_left (fun p hp => ?_)
  unfold entryOf entW
  rw [look_of_mem hu (show (p.1, p.2) ∈ L from hp)]
  rfl
theorem best_head {L : List Wt} (hu : Uniq L) {sn : List S46} {k : Nat} (hk : k < L.length) (hb : ∀ j, j < L.length → ltE (entW sn (L.getD j zWt)) (entW sn (L.getD k zWt)) = false) : headC (cellsOf L sn) = ((L.getD k zWt).1, true) := by
  have hp := sortS_perm (entsOf L sn)
  have hs := sorted_pw (entsOf L sn)
  unfold cellsOf
  have hmk : entW sn (L.getD k zWt) ∈ sortS (entsOf L sn) := hp.mem_iff.2 (by rw [ents_w hu, rdW L k hk]; exact List.mem_map.2 ⟨_, List.getElem_mem hk, rfl⟩)
  cases hc : sortS (entsOf L sn) with
  | nil => rw [hc] at hmk; cases hmk
  | cons b t =>
    rw [hc] at hmk hs
    have hmb : b ∈ entsOf L sn := hp.mem_iff.1 (by rw [hc]; exact List.mem_cons_self ..)
    rw [ents_w hu] at hmb
    obtain ⟨p, hpl, hpe⟩ := List.mem_map.1 hmb
    obtain ⟨j, hj, rfl⟩ := List.getElem_of_mem hpl
    have h1 := hb j hj
    rw [rdW L j hj, hpe] at h1
    have he : entW sn (L.getD k zWt) = b := by
      rcases List.mem_cons.1 hmk with h | h
      · exact h
      · exact ltE_tri ((List.pairwise_cons.1 hs).1 _ h) h1
    rw [List.map_cons]
    show (b.f2, true) = _
    rw [← he]
    rfl
theorem head_none {L : List Wt} (h : L.length = 0) (sn : List S46) : headC (cellsOf L sn) = (z30, false) := by
  have h2 := cellsOf_length L sn
  rw [h] at h2
  rw [List.length_eq_zero_iff.1 h2]
  rfl
def Bst (L : List Wt) (sn : List S46) (i : Nat) (x : Int) : Prop := (i = 0 ∧ x = -1) ∨ ∃ k : Nat, x = (k : Int) ∧ k < i ∧ ∀ j, j < i → ltE (entW sn (L.getD j zWt)) (entW sn (L.getD k zWt)) = false
theorem Bst.first {L : List Wt} {sn : List S46} : Bst L sn 1 ((0 : Nat) : Int) := by
  refine .inr ⟨0, rfl, Nat.zero_lt_one, fun j hj => ?_⟩
  obtain rfl : j = 0 := by omega
  exact ltE_irr _
theorem Bst.take {L : List Wt} {sn : List S46} {i k : Nat} (hb : ∀ j, j < i → ltE (entW sn (L.getD j zWt)) (entW sn (L.getD k zWt)) = false) (h : ltE (entW sn (L.getD i zWt)) (entW sn (L.getD k zWt)) = true) : Bst L sn (i + 1) (i : Int) := by
  refine .inr ⟨i, rfl, Nat.lt_succ_self _, fun j hj => ?_⟩
  by_cases e : j = i
  · subst e; exact ltE_irr _
  · cases h2 : ltE (entW sn (L.getD j zWt)) (entW sn (L.getD i zWt)) with
    | false => rfl
    | true => have := ltE_trans h2 h; rw [hb j (by omega)] at this; cases this
theorem Bst.keep {L : List Wt} {sn : List S46} {i k : Nat} (hk : k < i) (hb : ∀ j, j < i → ltE (entW sn (L.getD j zWt)) (entW sn (L.getD k zWt)) = false) (h : ltE (entW sn (L.getD i zWt)) (entW sn (L.getD k zWt)) = false) : Bst L sn (i + 1) (k : Int) := by
  refine .inr ⟨k, rfl, by omega, fun j hj => ?_⟩
  by_cases e : j = i
  · subst e; exact h
  · exact hb j (by omega)

set_option maxHeartbeats 8000000 in
theorem dfirst_calls (w : World) (F : Nat → Prop) (db : Nat) (L : List Wt) (sn : List S46) (hD : DQ w F db L sn) (hu : Uniq L) (hl : L.length ≤ 1000000) (hs : sn.length ≤ 1000000) (c : S30) (b : Bool) (hc : headC (cellsOf L sn) = (c, b)) : Calls Try.prog 33 #[.pointer (some ⟨db, 0, none⟩)] w fun e w' => e = .returned (.tuple #[.agg #[.int .i64 c.f0, .int .i64 c.f1, .int .i64 c.f2], .bool b]) ∧ Below w.heap.size w w' := by
  have hu30 := Try.underlying30
  have hu38 := Try.underlying38
  have hu39 := Try.underlying39
  have hu41 := Try.underlying41
  have hu69 := Try.underlying69
  have HLL := Aside0.mk hl
  have HU := Aside0.mk hu
  have HSN := Aside0.mk hs
  have HC := Aside0.mk hc
  clear hl hu hs hc
  obtain ⟨vl, va, hD⟩ := hD
  obtain ⟨A, cap, ev⟩ := Kd.R_slice hD.list
  subst ev
  have HD := Aside0.mk hD
  have HB : Aside0 (Below w.heap.size w w) := ⟨Below.refl _ _⟩
  clear hD
  go_enter Try.func33, Try.ntmps33
  go_wp2_with ((with_reducible refine gate_dst (N := 2) rfl ?_); refine box_event ?hg (N := 2) ?hd (cs := #[(.int .i64 0), (.int .i64 0), (.int .i64 0)]) (t := 30) ?hr ?_; (case hd => rfl); (case hg => rfl); (case hr => first | (go_simp; done) | (go_simp; rfl)); intro gr hg w1 hbox hb; have GEgr : Aside0 (w.heap.size ≤ gr) := ⟨by rw [hg]; exact Nat.le_refl _⟩; have n0_ : Aside0 (Below w.heap.size w w1) := ⟨(below_step HB.out hb)⟩; have n1_ : Aside0 (DAt w1 F db (.slice A L.length cap) va L sn) := ⟨(DAt.below HD.out hb)⟩; clear HB HD; have HB := n0_; have HD := n1_; clear n0_ n1_; have BKgr : Aside0 (w1.heap[gr]? = some (.cells #[(.int .i64 0), (.int .i64 0), (.int .i64 0)] 30 (0, 0))) := ⟨hbox⟩; clear hb hbox hg)
  go_loopg [4, 5] (L.length + 1) (fun gg v4 v5 wr => ∃ (x4 x5 : Int) (i : Nat), v4 = .int .i64 x4 ∧ v5 = .int .i64 x5 ∧ L.length - i + 1 ≤ gg ∧ Aside0 (x5 = (i : Int) ∧ i ≤ L.length ∧ Bst L sn i x4) ∧ Aside0 (Below w.heap.size w wr) ∧ Aside0 (DAt wr F db (.slice A L.length cap) va L sn) ∧ Aside0 (wr.heap[gr]? = some (.cells #[(.int .i64 0), (.int .i64 0), (.int .i64 0)] 30 (0, 0))))
  case atStart => exact ⟨-1, 0, 0, rfl, rfl, by omega, ⟨rfl, Nat.zero_le _, .inl ⟨rfl, rfl⟩⟩, HB, HD, BKgr⟩
  case round =>
    clear HB HD BKgr
    obtain ⟨x4, x5, i, rfl, rfl, hgg, HI, HB, HD, BKgr⟩ := hrel
    have HGG := Aside0.mk hgg
    clear hgg
    by_cases c2 : x5 < (L.length : Int)
    · have c2b : decide (x5 < (L.length : Int)) = true := decide_eq_true c2
      have c3 : 0 ≤ x5 := by have := HI.out.1; omega
      have c3b : decide (0 ≤ x5) = true := decide_eq_true c3
      have hil : i < L.length := by have := HI.out.1; omega
      obtain ⟨g, cap2, hv, _, _, _⟩ := Kd.R_form HD.out.list (by omega)
      injection hv with hA _ hc2
      subst hA
      subst hc2
      obtain ⟨he, _⟩ := elW HD.out.list x5 c3 c2
      have HIL := Aside0.mk hil
      obtain ⟨x, hx⟩ : ∃ x, L.getD x5.toNat zWt = x := ⟨_, rfl⟩
      rw [hx] at he
      have HX : Aside0 (L.getD i zWt = x) := ⟨by rw [← hx, HI.out.1, Int.toNat_natCast]⟩
      have hx0 : wr.cell? ⟨g, x5.toNat * 4 + 0, none⟩ = some (.int .i64 x.1.f0) := he 0 _ rfl
      have hx1 : wr.cell? ⟨g, x5.toNat * 4 + 1, none⟩ = some (.int .i64 x.1.f1) := he 1 _ rfl
      have hx2 : wr.cell? ⟨g, x5.toNat * 4 + 2, none⟩ = some (.int .i64 x.1.f2) := he 2 _ rfl
      have hx3 : wr.cell? ⟨g, x5.toNat * 4 + 3, none⟩ = some (.int .i64 x.2) := he 3 _ rfl
      have c2t := eq_true c2
      have c3t := eq_true c3
      clear c3 hil hx he
      have hd0 : wr.cell? ⟨db, 0, none⟩ = some (.slice (some ⟨g, 0, none⟩) L.length cap) := (blk_cell HD.out.blk 0).trans rfl
      have HB5 := Aside0.mk HI.out.2.2
      rcases HB5.out with ⟨hi0, hx4⟩ | ⟨k, hk, hki, hbest⟩
      · have HI0 := Aside0.mk hi0
        have k4 : x4 < 0 := by omega
        have k4b := decide_eq_true k4
        have k4t := eq_true k4
        clear hi0 hx4 k4 c2
        go_wp2
        refine start_ (n := 20) (S := fun w' => True) (ds := []) #[false, false, false, false, false, false, false, false, false, false, false, false, false, false, false, false, false, false, false, false] (by kernel_rfl) rfl rfl (trivial) (fun hHeld => ?_)
        refine pure_ (i := 0) (N := some 15) (v := ?_) (a' := ?_) #[true, false, false, false, false, false, false, false, false, false, false, false, false, false, false, false, false, false, false, false] rfl rfl (by kernel_rfl) (fun _ _ _ h => h) (Or.inl ⟨by rfl, ?_⟩) ?_ ?_
        rotate_left
        · intro w'
          go_simp
          with_reducible rfl
        rotate_left
        · simp only [Act.put, List.setIfInBounds_toArray, List.set_cons_zero, List.set_cons_succ, i64_w, i32_w]
          rfl
        refine pure_ (i := 1) (N := some 16) (v := ?_) (a' := ?_) #[true, true, false, false, false, false, false, false, false, false, false, false, false, false, false, false, false, false, false, false] rfl rfl (by kernel_rfl) (fun _ _ _ h => h) (Or.inl ⟨by rfl, ?_⟩) ?_ ?_
        rotate_left
        · intro w'
          go_simp
          with_reducible rfl
        rotate_left
        · simp only [Act.put, List.setIfInBounds_toArray, List.set_cons_zero, List.set_cons_succ, i64_w, i32_w]
          rfl
        refine pure_ (i := 2) (N := some 17) (v := ?_) (a' := ?_) #[true, true, true, false, false, false, false, false, false, false, false, false, false, false, false, false, false, false, false, false] rfl rfl (by kernel_rfl) (fun _ _ _ h => h) (Or.inl ⟨by rfl, ?_⟩) ?_ ?_
        rotate_left
        · intro w'
          go_simp
          with_reducible rfl
        rotate_left
        · simp only [Act.put, List.setIfInBounds_toArray, List.set_cons_zero, List.set_cons_succ, i64_w, i32_w]
          rfl
        refine pure_ (i := 3) (N := some 18) (v := undef) (a' := ?_) #[true, true, true, true, false, false, false, false, false, false, false, false, false, false, false, false, false, false, false, false] rfl rfl (by kernel_rfl) (fun _ _ _ h => h) (Or.inr ⟨by rfl, rfl⟩) ?_ ?_
        rotate_left
        · simp only [Act.put, List.setIfInBounds_toArray, List.set_cons_zero, List.set_cons_succ, i64_w, i32_w]
          rfl
        refine pure_ (i := 4) (N := some 19) (v := undef) (a' := ?_) #[true, true, true, true, true, false, false, false, false, false, false, false, false, false, false, false, false, false, false, false] rfl rfl (by kernel_rfl) (fun _ _ _ h => h) (Or.inr ⟨by rfl, rfl⟩) ?_ ?_
        rotate_left
        · simp only [Act.put, List.setIfInBounds_toArray, List.set_cons_zero, List.set_cons_succ, i64_w, i32_w]
          rfl
        refine pure_ (i := 5) (N := some 20) (v := undef) (a' := ?_) #[true, true, true, true, true, true, false, false, false, false, false, false, false, false, false, false, false, false, false, false] rfl rfl (by kernel_rfl) (fun _ _ _ h => h) (Or.inr ⟨by rfl, rfl⟩) ?_ ?_
        rotate_left
        · simp only [Act.put, List.setIfInBounds_toArray, List.set_cons_zero, List.set_cons_succ, i64_w, i32_w]
          rfl
        refine pure_ (i := 6) (N := some 21) (v := undef) (a' := ?_) #[true, true, true, true, true, true, true, false, false, false, false, false, false, false, false, false, false, false, false, false] rfl rfl (by kernel_rfl) (fun _ _ _ h => h) (Or.inr ⟨by rfl, rfl⟩) ?_ ?_
        rotate_left
        · simp only [Act.put, List.setIfInBounds_toArray, List.set_cons_zero, List.set_cons_succ, i64_w, i32_w]
          rfl
        refine pure_ (i := 7) (N := some 22) (v := undef) (a' := ?_) #[true, true, true, true, true, true, true, true, false, false, false, false, false, false, false, false, false, false, false, false] rfl rfl (by kernel_rfl) (fun _ _ _ h => h) (Or.inr ⟨by rfl, rfl⟩) ?_ ?_
        rotate_left
        · simp only [Act.put, List.setIfInBounds_toArray, List.set_cons_zero, List.set_cons_succ, i64_w, i32_w]
          rfl
        refine pure_ (i := 8) (N := some 23) (v := undef) (a' := ?_) #[true, true, true, true, true, true, true, true, true, false, false, false, false, false, false, false, false, false, false, false] rfl rfl (by kernel_rfl) (fun _ _ _ h => h) (Or.inr ⟨by rfl, rfl⟩) ?_ ?_
        rotate_left
        · simp only [Act.put, List.setIfInBounds_toArray, List.set_cons_zero, List.set_cons_succ, i64_w, i32_w]
          rfl
        refine pure_ (i := 9) (N := some 24) (v := undef) (a' := ?_) #[true, true, true, true, true, true, true, true, true, true, false, false, false, false, false, false, false, false, false, false] rfl rfl (by kernel_rfl) (fun _ _ _ h => h) (Or.inr ⟨by rfl, rfl⟩) ?_ ?_
        rotate_left
        · simp only [Act.put, List.setIfInBounds_toArray, List.set_cons_zero, List.set_cons_succ, i64_w, i32_w]
          rfl
        refine pure_ (i := 10) (N := some 25) (v := undef) (a' := ?_) #[true, true, true, true, true, true, true, true, true, true, true, false, false, false, false, false, false, false, false, false] rfl rfl (by kernel_rfl) (fun _ _ _ h => h) (Or.inr ⟨by rfl, rfl⟩) ?_ ?_
        rotate_left
        · simp only [Act.put, List.setIfInBounds_toArray, List.set_cons_zero, List.set_cons_succ, i64_w, i32_w]
          rfl
        refine pure_ (i := 11) (N := some 26) (v := undef) (a' := ?_) #[true, true, true, true, true, true, true, true, true, true, true, true, false, false, false, false, false, false, false, false] rfl rfl (by kernel_rfl) (fun _ _ _ h => h) (Or.inr ⟨by rfl, rfl⟩) ?_ ?_
        rotate_left
        · simp only [Act.put, List.setIfInBounds_toArray, List.set_cons_zero, List.set_cons_succ, i64_w, i32_w]
          rfl
        refine pure_ (i := 12) (N := some 27) (v := undef) (a' := ?_) #[true, true, true, true, true, true, true, true, true, true, true, true, true, false, false, false, false, false, false, false] rfl rfl (by kernel_rfl) (fun _ _ _ h => h) (Or.inr ⟨by rfl, rfl⟩) ?_ ?_
        rotate_left
        · simp only [Act.put, List.setIfInBounds_toArray, List.set_cons_zero, List.set_cons_succ, i64_w, i32_w]
          rfl
        refine pure_ (i := 13) (N := some 28) (v := undef) (a' := ?_) #[true, true, true, true, true, true, true, true, true, true, true, true, true, true, false, false, false, false, false, false] rfl rfl (by kernel_rfl) (fun _ _ _ h => h) (Or.inr ⟨by rfl, rfl⟩) ?_ ?_
        rotate_left
        · simp only [Act.put, List.setIfInBounds_toArray, List.set_cons_zero, List.set_cons_succ, i64_w, i32_w]
          rfl
        refine pure_ (i := 14) (N := some 29) (v := undef) (a' := ?_) #[true, true, true, true, true, true, true, true, true, true, true, true, true, true, true, false, false, false, false, false] rfl rfl (by kernel_rfl) (fun _ _ _ h => h) (Or.inr ⟨by rfl, rfl⟩) ?_ ?_
        rotate_left
        · simp only [Act.put, List.setIfInBounds_toArray, List.set_cons_zero, List.set_cons_succ, i64_w, i32_w]
          rfl
        refine pure_ (i := 15) (N := some 30) (v := undef) (a' := ?_) #[true, true, true, true, true, true, true, true, true, true, true, true, true, true, true, true, false, false, false, false] rfl rfl (by kernel_rfl) (fun _ _ _ h => h) (Or.inr ⟨by rfl, rfl⟩) ?_ ?_
        rotate_left
        · simp only [Act.put, List.setIfInBounds_toArray, List.set_cons_zero, List.set_cons_succ, i64_w, i32_w]
          rfl
        refine pure_ (i := 16) (N := some 31) (v := undef) (a' := ?_) #[true, true, true, true, true, true, true, true, true, true, true, true, true, true, true, true, true, false, false, false] rfl rfl (by kernel_rfl) (fun _ _ _ h => h) (Or.inr ⟨by rfl, rfl⟩) ?_ ?_
        rotate_left
        · simp only [Act.put, List.setIfInBounds_toArray, List.set_cons_zero, List.set_cons_succ, i64_w, i32_w]
          rfl
        refine pure_ (i := 17) (N := some 32) (v := undef) (a' := ?_) #[true, true, true, true, true, true, true, true, true, true, true, true, true, true, true, true, true, true, false, false] rfl rfl (by kernel_rfl) (fun _ _ _ h => h) (Or.inr ⟨by rfl, rfl⟩) ?_ ?_
        rotate_left
        · simp only [Act.put, List.setIfInBounds_toArray, List.set_cons_zero, List.set_cons_succ, i64_w, i32_w]
          rfl
        refine pure_ (i := 18) (N := some 33) (v := undef) (a' := ?_) #[true, true, true, true, true, true, true, true, true, true, true, true, true, true, true, true, true, true, true, false] rfl rfl (by kernel_rfl) (fun _ _ _ h => h) (Or.inr ⟨by rfl, rfl⟩) ?_ ?_
        rotate_left
        · simp only [Act.put, List.setIfInBounds_toArray, List.set_cons_zero, List.set_cons_succ, i64_w, i32_w]
          rfl
        refine pure_ (i := 19) (N := some 34) (v := ?_) (a' := ?_) #[true, true, true, true, true, true, true, true, true, true, true, true, true, true, true, true, true, true, true, true] rfl rfl (by kernel_rfl) (fun _ _ _ h => h) (Or.inl ⟨by rfl, ?_⟩) ?_ ?_
        rotate_left
        · intro w'
          go_simp
          with_reducible rfl
        rotate_left
        · simp only [Act.put, List.setIfInBounds_toArray, List.set_cons_zero, List.set_cons_succ, i64_w, i32_w]
          rfl
        refine done_ (by kernel_rfl) ?_
        clear hx0 hx1 hx2 hx3 hd0
        have n0_ : Aside0 (Below w.heap.size w wr.drew) := ⟨(below_step HB.out (below_drew1 (Below.refl wr.heap.size wr)))⟩
        have n1_ : Aside0 (DAt wr.drew F db (.slice (some ⟨g, 0, none⟩) L.length cap) va L sn) := ⟨(DAt.below HD.out (below_drew1 (Below.refl wr.heap.size wr)))⟩
        have n2_ : Aside0 (wr.drew.heap[gr]? = some (.cells #[(.int .i64 0), (.int .i64 0), (.int .i64 0)] 30 (0, 0))) := ⟨(blk_below BKgr.out (below_drew1 (Below.refl wr.heap.size wr)))⟩
        clear HB HD BKgr
        have HB := n0_
        have HD := n1_
        have BKgr := n2_
        clear n0_ n1_ n2_
        go_wp2
        go_roundg (L.length - i)
        case measure => have := HGG.out; have := HIL.out; omega
        case rel =>
          have he : wrap64 (x5 + 1) = ((i + 1 : Nat) : Int) := by have := HI.out.1; have := HLL.out; have := HIL.out; rw [w64 (by omega) (by omega)]; omega
          refine ⟨x5, wrap64 (x5 + 1), i + 1, rfl, rfl, by have := HIL.out; omega, ⟨he, HIL.out, ?_⟩, HB, HD, BKgr⟩
          rw [HI.out.1, HI0.out]; exact Bst.first
      · have HK := Aside0.mk (And.intro hk (And.intro hki hbest))
        have k4 : ¬ x4 < 0 := by omega
        have k40 : 0 ≤ x4 := by omega
        have k41 : x4 < (L.length : Int) := by have := HIL.out; omega
        have k4b := decide_eq_false k4
        have k4f := eq_false k4
        obtain ⟨he, _⟩ := elW HD.out.list x4 k40 k41
        have k40b := decide_eq_true k40
        have k41b := decide_eq_true k41
        have k40t := eq_true k40
        have k41t := eq_true k41
        obtain ⟨y, hy⟩ : ∃ y, L.getD x4.toNat zWt = y := ⟨_, rfl⟩
        rw [hy] at he
        have HY : Aside0 (L.getD k zWt = y) := ⟨by rw [← hy, hk, Int.toNat_natCast]⟩
        have hy0 : wr.cell? ⟨g, x4.toNat * 4 + 0, none⟩ = some (.int .i64 y.1.f0) := he 0 _ rfl
        have hy1 : wr.cell? ⟨g, x4.toNat * 4 + 1, none⟩ = some (.int .i64 y.1.f1) := he 1 _ rfl
        have hy2 : wr.cell? ⟨g, x4.toNat * 4 + 2, none⟩ = some (.int .i64 y.1.f2) := he 2 _ rfl
        have hy3 : wr.cell? ⟨g, x4.toNat * 4 + 3, none⟩ = some (.int .i64 y.2) := he 3 _ rfl
        clear hk hki hbest k4 k40 k41 hy he c2
        cases hr : ltE (entW sn x) (entW sn y) with
        | true =>
          have HR := Aside0.mk hr
          clear hr
          go_wp2
          refine start_ (n := 20) (S := fun w' => w'.cell? ⟨db, 0, none⟩ = some (.slice (some ⟨g, 0, none⟩) L.length cap) ∧ w'.cell? ⟨g, x5.toNat * 4, none⟩ = some (.int .i64 x.1.f0) ∧ w'.cell? ⟨g, x5.toNat * 4 + 1, none⟩ = some (.int .i64 x.1.f1) ∧ w'.cell? ⟨g, x5.toNat * 4 + 2, none⟩ = some (.int .i64 x.1.f2) ∧ w'.cell? ⟨g, x5.toNat * 4 + 3, none⟩ = some (.int .i64 x.2) ∧ w'.cell? ⟨g, x4.toNat * 4, none⟩ = some (.int .i64 y.1.f0) ∧ w'.cell? ⟨g, x4.toNat * 4 + 1, none⟩ = some (.int .i64 y.1.f1) ∧ w'.cell? ⟨g, x4.toNat * 4 + 2, none⟩ = some (.int .i64 y.1.f2) ∧ w'.cell? ⟨g, x4.toNat * 4 + 3, none⟩ = some (.int .i64 y.2)) (ds := [18]) #[false, false, false, false, false, false, false, false, false, false, false, false, false, false, false, false, false, false, false, false] (by kernel_rfl) rfl rfl ⟨hd0, hx0, hx1, hx2, hx3, hy0, hy1, hy2, hy3⟩ (fun hHeld => ?_)
          refine pure_ (i := 0) (N := some 15) (v := ?_) (a' := ?_) #[true, false, false, false, false, false, false, false, false, false, false, false, false, false, false, false, false, false, false, false] rfl rfl (by kernel_rfl) (fun _ _ _ h => h) (Or.inl ⟨by rfl, ?_⟩) ?_ ?_
          rotate_left
          · intro w'
            go_simp
            with_reducible rfl
          rotate_left
          · simp only [Act.put, List.setIfInBounds_toArray, List.set_cons_zero, List.set_cons_succ, i64_w, i32_w]
            rfl
          refine pure_ (i := 1) (N := some 16) (v := ?_) (a' := ?_) #[true, true, false, false, false, false, false, false, false, false, false, false, false, false, false, false, false, false, false, false] rfl rfl (by kernel_rfl) (fun _ _ _ h => h) (Or.inl ⟨by rfl, ?_⟩) ?_ ?_
          rotate_left
          · intro w'
            go_simp
            with_reducible rfl
          rotate_left
          · simp only [Act.put, List.setIfInBounds_toArray, List.set_cons_zero, List.set_cons_succ, i64_w, i32_w]
            rfl
          refine pure_ (i := 2) (N := some 17) (v := ?_) (a' := ?_) #[true, true, true, false, false, false, false, false, false, false, false, false, false, false, false, false, false, false, false, false] rfl rfl (by kernel_rfl) (fun _ _ _ h => h) (Or.inl ⟨by rfl, ?_⟩) ?_ ?_
          rotate_left
          · intro w'
            go_simp
            with_reducible rfl
          rotate_left
          · simp only [Act.put, List.setIfInBounds_toArray, List.set_cons_zero, List.set_cons_succ, i64_w, i32_w]
            rfl
          refine pure_ (i := 3) (N := some 18) (v := ?_) (a' := ?_) #[true, true, true, true, false, false, false, false, false, false, false, false, false, false, false, false, false, false, false, false] rfl rfl (by kernel_rfl) (fun _ _ _ h => h) (Or.inl ⟨by rfl, ?_⟩) ?_ ?_
          rotate_left
          · intro w'
            go_simp
            with_reducible rfl
          rotate_left
          · simp only [Act.put, List.setIfInBounds_toArray, List.set_cons_zero, List.set_cons_succ, i64_w, i32_w]
            rfl
          refine pure_ (i := 4) (N := some 19) (v := ?_) (a' := ?_) #[true, true, true, true, true, false, false, false, false, false, false, false, false, false, false, false, false, false, false, false] rfl rfl (by kernel_rfl) (fun _ _ _ h => h) (Or.inl ⟨by rfl, ?_⟩) ?_ ?_
          rotate_left
          · intro w'
            go_simp
            with_reducible rfl
          rotate_left
          · simp only [Act.put, List.setIfInBounds_toArray, List.set_cons_zero, List.set_cons_succ, i64_w, i32_w]
            rfl
          refine pure_ (i := 5) (N := some 20) (v := ?_) (a' := ?_) #[true, true, true, true, true, true, false, false, false, false, false, false, false, false, false, false, false, false, false, false] rfl rfl (by kernel_rfl) (fun _ _ _ h => h) (Or.inl ⟨by rfl, ?_⟩) ?_ ?_
          rotate_left
          · intro w'
            go_simp
            with_reducible rfl
          rotate_left
          · simp only [Act.put, List.setIfInBounds_toArray, List.set_cons_zero, List.set_cons_succ, i64_w, i32_w]
            rfl
          refine pure_ (i := 6) (N := some 21) (v := ?_) (a' := ?_) #[true, true, true, true, true, true, true, false, false, false, false, false, false, false, false, false, false, false, false, false] rfl rfl (by kernel_rfl) (fun _ _ _ h => h) (Or.inl ⟨by rfl, ?_⟩) ?_ ?_
          rotate_left
          · intro w'
            go_simp
            with_reducible rfl
          rotate_left
          · simp only [Act.put, List.setIfInBounds_toArray, List.set_cons_zero, List.set_cons_succ, i64_w, i32_w]
            rfl
          refine pure_ (i := 8) (N := some 23) (v := ?_) (a' := ?_) #[true, true, true, true, true, true, true, false, true, false, false, false, false, false, false, false, false, false, false, false] rfl rfl (by kernel_rfl) (fun _ _ _ h => h) (Or.inl ⟨by rfl, ?_⟩) ?_ ?_
          rotate_left
          · intro w'
            go_simp
            with_reducible rfl
          rotate_left
          · simp only [Act.put, List.setIfInBounds_toArray, List.set_cons_zero, List.set_cons_succ, i64_w, i32_w]
            rfl
          refine pure_ (i := 11) (N := some 26) (v := ?_) (a' := ?_) #[true, true, true, true, true, true, true, false, true, false, false, true, false, false, false, false, false, false, false, false] rfl rfl (by kernel_rfl) (fun _ _ _ h => h) (Or.inl ⟨by rfl, ?_⟩) ?_ ?_
          rotate_left
          · intro w'
            go_simp
            with_reducible rfl
          rotate_left
          · simp only [Act.put, List.setIfInBounds_toArray, List.set_cons_zero, List.set_cons_succ, i64_w, i32_w]
            rfl
          refine pure_ (i := 12) (N := some 27) (v := ?_) (a' := ?_) #[true, true, true, true, true, true, true, false, true, false, false, true, true, false, false, false, false, false, false, false] rfl rfl (by kernel_rfl) (fun _ _ _ h => h) (Or.inl ⟨by rfl, ?_⟩) ?_ ?_
          rotate_left
          · intro w'
            go_simp
            with_reducible rfl
          rotate_left
          · simp only [Act.put, List.setIfInBounds_toArray, List.set_cons_zero, List.set_cons_succ, i64_w, i32_w]
            rfl
          refine pure_ (i := 13) (N := some 28) (v := ?_) (a' := ?_) #[true, true, true, true, true, true, true, false, true, false, false, true, true, true, false, false, false, false, false, false] rfl rfl (by kernel_rfl) (fun _ _ _ h => h) (Or.inl ⟨by rfl, ?_⟩) ?_ ?_
          rotate_left
          · intro w'
            go_simp
            with_reducible rfl
          rotate_left
          · simp only [Act.put, List.setIfInBounds_toArray, List.set_cons_zero, List.set_cons_succ, i64_w, i32_w]
            rfl
          refine pure_ (i := 15) (N := some 30) (v := ?_) (a' := ?_) #[true, true, true, true, true, true, true, false, true, false, false, true, true, true, false, true, false, false, false, false] rfl rfl (by kernel_rfl) (fun _ _ _ h => h) (Or.inl ⟨by rfl, ?_⟩) ?_ ?_
          rotate_left
          · intro w'
            go_simp
            with_reducible rfl
          rotate_left
          · simp only [Act.put, List.setIfInBounds_toArray, List.set_cons_zero, List.set_cons_succ, i64_w, i32_w]
            rfl
          refine take_ (i := 7) (N := some 22) (v := ?_) (a' := ?_) #[true, true, true, true, true, true, true, true, true, false, false, true, true, true, false, true, false, false, false, false] rfl rfl (by kernel_rfl) (fun _ _ _ h => h) (Or.inl ⟨by rfl, ?_⟩) hHeld ?_ ?_
          rotate_left
          · rintro w' ⟨s0, s1, s2, s3, s4, s5, s6, s7, s8⟩
            go_simp
            with_reducible rfl
          rotate_left
          · simp only [Act.put, List.setIfInBounds_toArray, List.set_cons_zero, List.set_cons_succ, i64_w, i32_w]
            rfl
          refine pure_ (i := 9) (N := some 24) (v := ?_) (a' := ?_) #[true, true, true, true, true, true, true, true, true, true, false, true, true, true, false, true, false, false, false, false] rfl rfl (by kernel_rfl) (fun _ _ _ h => h) (Or.inl ⟨by rfl, ?_⟩) ?_ ?_
          rotate_left
          · intro w'
            go_simp
            with_reducible rfl
          rotate_left
          · simp only [Act.put, List.setIfInBounds_toArray, List.set_cons_zero, List.set_cons_succ, i64_w, i32_w]
            rfl
          refine take_ (i := 10) (N := some 25) (v := ?_) (a' := ?_) #[true, true, true, true, true, true, true, true, true, true, true, true, true, true, false, true, false, false, false, false] rfl rfl (by kernel_rfl) (fun _ _ _ h => h) (Or.inl ⟨by rfl, ?_⟩) hHeld ?_ ?_
          rotate_left
          · rintro w' ⟨s0, s1, s2, s3, s4, s5, s6, s7, s8⟩
            go_simp
            with_reducible rfl
          rotate_left
          · simp only [Act.put, List.setIfInBounds_toArray, List.set_cons_zero, List.set_cons_succ, i64_w, i32_w]
            rfl
          refine take_ (i := 14) (N := some 29) (v := ?_) (a' := ?_) #[true, true, true, true, true, true, true, true, true, true, true, true, true, true, true, true, false, false, false, false] rfl rfl (by kernel_rfl) (fun _ _ _ h => h) (Or.inl ⟨by rfl, ?_⟩) hHeld ?_ ?_
          rotate_left
          · rintro w' ⟨s0, s1, s2, s3, s4, s5, s6, s7, s8⟩
            go_simp
            with_reducible rfl
          rotate_left
          · simp only [Act.put, List.setIfInBounds_toArray, List.set_cons_zero, List.set_cons_succ, i64_w, i32_w]
            rfl
          refine pure_ (i := 16) (N := some 31) (v := ?_) (a' := ?_) #[true, true, true, true, true, true, true, true, true, true, true, true, true, true, true, true, true, false, false, false] rfl rfl (by kernel_rfl) (fun _ _ _ h => h) (Or.inl ⟨by rfl, ?_⟩) ?_ ?_
          rotate_left
          · intro w'
            go_simp
            with_reducible rfl
          rotate_left
          · simp only [Act.put, List.setIfInBounds_toArray, List.set_cons_zero, List.set_cons_succ, i64_w, i32_w]
            rfl
          refine take_ (i := 17) (N := some 32) (v := ?_) (a' := ?_) #[true, true, true, true, true, true, true, true, true, true, true, true, true, true, true, true, true, true, false, false] rfl rfl (by kernel_rfl) (fun _ _ _ h => h) (Or.inl ⟨by rfl, ?_⟩) hHeld ?_ ?_
          rotate_left
          · rintro w' ⟨s0, s1, s2, s3, s4, s5, s6, s7, s8⟩
            go_simp
            with_reducible rfl
          rotate_left
          · simp only [Act.put, List.setIfInBounds_toArray, List.set_cons_zero, List.set_cons_succ, i64_w, i32_w]
            rfl
          refine last_ (i := 18) (N := some 33) #[true, true, true, true, true, true, true, true, true, true, true, true, true, true, true, true, true, true, true, false] rfl rfl (by kernel_rfl) (by decide) (fun K hK => ?_)
          have n0_ : Aside0 (Below w.heap.size w wr.drew) := ⟨(below_step HB.out (below_drew1 (Below.refl wr.heap.size wr)))⟩
          have n1_ : Aside0 (DAt wr.drew F db (.slice (some ⟨g, 0, none⟩) L.length cap) va L sn) := ⟨(DAt.below HD.out (below_drew1 (Below.refl wr.heap.size wr)))⟩
          have n2_ : Aside0 (wr.drew.heap[gr]? = some (.cells #[(.int .i64 0), (.int .i64 0), (.int .i64 0)] 30 (0, 0))) := ⟨(blk_below BKgr.out (below_drew1 (Below.refl wr.heap.size wr)))⟩
          clear HB HD BKgr
          have HB := n0_
          have HD := n1_
          have BKgr := n2_
          clear n0_ n1_ n2_
          refine goes_ Try.func42 (by kernel_rfl) rfl #[.pointer (some ⟨db, 0, none⟩), .agg #[.int .i64 x.1.f0, .int .i64 x.1.f1, .int .i64 x.1.f2, .int .i64 x.2], .agg #[.int .i64 y.1.f0, .int .i64 y.1.f1, .int .i64 y.1.f2, .int .i64 y.2]] (by rfl) rfl rfl (by simp only [List.map_toArray, List.map_cons, List.map_nil]; rfl) ?_
          with_reducible refine (ahead_calls wr.drew F db _ va L sn HD.out x y HSN.out).mono ?_
          rintro e w3 ⟨rfl, hb⟩
          refine ⟨_, rfl, ?_⟩
          rw [HR.out]
          have n0_ : Aside0 (Below w.heap.size w w3) := ⟨(below_step HB.out hb)⟩
          have n1_ : Aside0 (DAt w3 F db (.slice (some ⟨g, 0, none⟩) L.length cap) va L sn) := ⟨(DAt.below HD.out hb)⟩
          have n2_ : Aside0 (w3.heap[gr]? = some (.cells #[(.int .i64 0), (.int .i64 0), (.int .i64 0)] 30 (0, 0))) := ⟨(blk_below BKgr.out hb)⟩
          clear HB HD BKgr
          have HB := n0_
          have HD := n1_
          have BKgr := n2_
          clear n0_ n1_ n2_
          clear hb
          refine hK.out _ _ ?_
          clear hK K
          refine norm_ (a' := ?_) ?_ ?_
          rotate_left
          · show Act.put _ (some 33) _ = _
            simp only [Act.put, List.setIfInBounds_toArray, List.set_cons_zero, List.set_cons_succ, i64_w, i32_w]
            rfl
          refine pure_ (i := 19) (N := some 34) (v := ?_) (a' := ?_) #[true, true, true, true, true, true, true, true, true, true, true, true, true, true, true, true, true, true, true, true] rfl rfl (by kernel_rfl) (fun _ _ _ h => h) (Or.inl ⟨by rfl, ?_⟩) ?_ ?_
          rotate_left
          · intro w'
            go_simp
            with_reducible rfl
          rotate_left
          · simp only [Act.put, List.setIfInBounds_toArray, List.set_cons_zero, List.set_cons_succ, i64_w, i32_w]
            rfl
          refine done_ (by kernel_rfl) ?_
          clear hx0 hx1 hx2 hx3 hd0 hy0 hy1 hy2 hy3
          go_wp2
          go_roundg (L.length - i)
          case measure => have := HGG.out; have := HIL.out; omega
          case rel =>
            have he : wrap64 (x5 + 1) = ((i + 1 : Nat) : Int) := by have := HI.out.1; have := HLL.out; have := HIL.out; rw [w64 (by omega) (by omega)]; omega
            refine ⟨x5, wrap64 (x5 + 1), i + 1, rfl, rfl, by have := HIL.out; omega, ⟨he, HIL.out, ?_⟩, HB, HD, BKgr⟩
            rw [HI.out.1]; exact Bst.take (k := k) HK.out.2.2 (by rw [HX.out, HY.out]; exact HR.out)
        | false =>
          have HR := Aside0.mk hr
          clear hr
          go_wp2
          refine start_ (n := 20) (S := fun w' => w'.cell? ⟨db, 0, none⟩ = some (.slice (some ⟨g, 0, none⟩) L.length cap) ∧ w'.cell? ⟨g, x5.toNat * 4, none⟩ = some (.int .i64 x.1.f0) ∧ w'.cell? ⟨g, x5.toNat * 4 + 1, none⟩ = some (.int .i64 x.1.f1) ∧ w'.cell? ⟨g, x5.toNat * 4 + 2, none⟩ = some (.int .i64 x.1.f2) ∧ w'.cell? ⟨g, x5.toNat * 4 + 3, none⟩ = some (.int .i64 x.2) ∧ w'.cell? ⟨g, x4.toNat * 4, none⟩ = some (.int .i64 y.1.f0) ∧ w'.cell? ⟨g, x4.toNat * 4 + 1, none⟩ = some (.int .i64 y.1.f1) ∧ w'.cell? ⟨g, x4.toNat * 4 + 2, none⟩ = some (.int .i64 y.1.f2) ∧ w'.cell? ⟨g, x4.toNat * 4 + 3, none⟩ = some (.int .i64 y.2)) (ds := [18]) #[false, false, false, false, false, false, false, false, false, false, false, false, false, false, false, false, false, false, false, false] (by kernel_rfl) rfl rfl ⟨hd0, hx0, hx1, hx2, hx3, hy0, hy1, hy2, hy3⟩ (fun hHeld => ?_)
          refine pure_ (i := 0) (N := some 15) (v := ?_) (a' := ?_) #[true, false, false, false, false, false, false, false, false, false, false, false, false, false, false, false, false, false, false, false] rfl rfl (by kernel_rfl) (fun _ _ _ h => h) (Or.inl ⟨by rfl, ?_⟩) ?_ ?_
          rotate_left
          · intro w'
            go_simp
            with_reducible rfl
          rotate_left
          · simp only [Act.put, List.setIfInBounds_toArray, List.set_cons_zero, List.set_cons_succ, i64_w, i32_w]
            rfl
          refine pure_ (i := 1) (N := some 16) (v := ?_) (a' := ?_) #[true, true, false, false, false, false, false, false, false, false, false, false, false, false, false, false, false, false, false, false] rfl rfl (by kernel_rfl) (fun _ _ _ h => h) (Or.inl ⟨by rfl, ?_⟩) ?_ ?_
          rotate_left
          · intro w'
            go_simp
            with_reducible rfl
          rotate_left
          · simp only [Act.put, List.setIfInBounds_toArray, List.set_cons_zero, List.set_cons_succ, i64_w, i32_w]
            rfl
          refine pure_ (i := 2) (N := some 17) (v := ?_) (a' := ?_) #[true, true, true, false, false, false, false, false, false, false, false, false, false, false, false, false, false, false, false, false] rfl rfl (by kernel_rfl) (fun _ _ _ h => h) (Or.inl ⟨by rfl, ?_⟩) ?_ ?_
          rotate_left
          · intro w'
            go_simp
            with_reducible rfl
          rotate_left
          · simp only [Act.put, List.setIfInBounds_toArray, List.set_cons_zero, List.set_cons_succ, i64_w, i32_w]
            rfl
          refine pure_ (i := 3) (N := some 18) (v := ?_) (a' := ?_) #[true, true, true, true, false, false, false, false, false, false, false, false, false, false, false, false, false, false, false, false] rfl rfl (by kernel_rfl) (fun _ _ _ h => h) (Or.inl ⟨by rfl, ?_⟩) ?_ ?_
          rotate_left
          · intro w'
            go_simp
            with_reducible rfl
          rotate_left
          · simp only [Act.put, List.setIfInBounds_toArray, List.set_cons_zero, List.set_cons_succ, i64_w, i32_w]
            rfl
          refine pure_ (i := 4) (N := some 19) (v := ?_) (a' := ?_) #[true, true, true, true, true, false, false, false, false, false, false, false, false, false, false, false, false, false, false, false] rfl rfl (by kernel_rfl) (fun _ _ _ h => h) (Or.inl ⟨by rfl, ?_⟩) ?_ ?_
          rotate_left
          · intro w'
            go_simp
            with_reducible rfl
          rotate_left
          · simp only [Act.put, List.setIfInBounds_toArray, List.set_cons_zero, List.set_cons_succ, i64_w, i32_w]
            rfl
          refine pure_ (i := 5) (N := some 20) (v := ?_) (a' := ?_) #[true, true, true, true, true, true, false, false, false, false, false, false, false, false, false, false, false, false, false, false] rfl rfl (by kernel_rfl) (fun _ _ _ h => h) (Or.inl ⟨by rfl, ?_⟩) ?_ ?_
          rotate_left
          · intro w'
            go_simp
            with_reducible rfl
          rotate_left
          · simp only [Act.put, List.setIfInBounds_toArray, List.set_cons_zero, List.set_cons_succ, i64_w, i32_w]
            rfl
          refine pure_ (i := 6) (N := some 21) (v := ?_) (a' := ?_) #[true, true, true, true, true, true, true, false, false, false, false, false, false, false, false, false, false, false, false, false] rfl rfl (by kernel_rfl) (fun _ _ _ h => h) (Or.inl ⟨by rfl, ?_⟩) ?_ ?_
          rotate_left
          · intro w'
            go_simp
            with_reducible rfl
          rotate_left
          · simp only [Act.put, List.setIfInBounds_toArray, List.set_cons_zero, List.set_cons_succ, i64_w, i32_w]
            rfl
          refine pure_ (i := 8) (N := some 23) (v := ?_) (a' := ?_) #[true, true, true, true, true, true, true, false, true, false, false, false, false, false, false, false, false, false, false, false] rfl rfl (by kernel_rfl) (fun _ _ _ h => h) (Or.inl ⟨by rfl, ?_⟩) ?_ ?_
          rotate_left
          · intro w'
            go_simp
            with_reducible rfl
          rotate_left
          · simp only [Act.put, List.setIfInBounds_toArray, List.set_cons_zero, List.set_cons_succ, i64_w, i32_w]
            rfl
          refine pure_ (i := 11) (N := some 26) (v := ?_) (a' := ?_) #[true, true, true, true, true, true, true, false, true, false, false, true, false, false, false, false, false, false, false, false] rfl rfl (by kernel_rfl) (fun _ _ _ h => h) (Or.inl ⟨by rfl, ?_⟩) ?_ ?_
          rotate_left
          · intro w'
            go_simp
            with_reducible rfl
          rotate_left
          · simp only [Act.put, List.setIfInBounds_toArray, List.set_cons_zero, List.set_cons_succ, i64_w, i32_w]
            rfl
          refine pure_ (i := 12) (N := some 27) (v := ?_) (a' := ?_) #[true, true, true, true, true, true, true, false, true, false, false, true, true, false, false, false, false, false, false, false] rfl rfl (by kernel_rfl) (fun _ _ _ h => h) (Or.inl ⟨by rfl, ?_⟩) ?_ ?_
          rotate_left
          · intro w'
            go_simp
            with_reducible rfl
          rotate_left
          · simp only [Act.put, List.setIfInBounds_toArray, List.set_cons_zero, List.set_cons_succ, i64_w, i32_w]
            rfl
          refine pure_ (i := 13) (N := some 28) (v := ?_) (a' := ?_) #[true, true, true, true, true, true, true, false, true, false, false, true, true, true, false, false, false, false, false, false] rfl rfl (by kernel_rfl) (fun _ _ _ h => h) (Or.inl ⟨by rfl, ?_⟩) ?_ ?_
          rotate_left
          · intro w'
            go_simp
            with_reducible rfl
          rotate_left
          · simp only [Act.put, List.setIfInBounds_toArray, List.set_cons_zero, List.set_cons_succ, i64_w, i32_w]
            rfl
          refine pure_ (i := 15) (N := some 30) (v := ?_) (a' := ?_) #[true, true, true, true, true, true, true, false, true, false, false, true, true, true, false, true, false, false, false, false] rfl rfl (by kernel_rfl) (fun _ _ _ h => h) (Or.inl ⟨by rfl, ?_⟩) ?_ ?_
          rotate_left
          · intro w'
            go_simp
            with_reducible rfl
          rotate_left
          · simp only [Act.put, List.setIfInBounds_toArray, List.set_cons_zero, List.set_cons_succ, i64_w, i32_w]
            rfl
          refine take_ (i := 7) (N := some 22) (v := ?_) (a' := ?_) #[true, true, true, true, true, true, true, true, true, false, false, true, true, true, false, true, false, false, false, false] rfl rfl (by kernel_rfl) (fun _ _ _ h => h) (Or.inl ⟨by rfl, ?_⟩) hHeld ?_ ?_
          rotate_left
          · rintro w' ⟨s0, s1, s2, s3, s4, s5, s6, s7, s8⟩
            go_simp
            with_reducible rfl
          rotate_left
          · simp only [Act.put, List.setIfInBounds_toArray, List.set_cons_zero, List.set_cons_succ, i64_w, i32_w]
            rfl
          refine pure_ (i := 9) (N := some 24) (v := ?_) (a' := ?_) #[true, true, true, true, true, true, true, true, true, true, false, true, true, true, false, true, false, false, false, false] rfl rfl (by kernel_rfl) (fun _ _ _ h => h) (Or.inl ⟨by rfl, ?_⟩) ?_ ?_
          rotate_left
          · intro w'
            go_simp
            with_reducible rfl
          rotate_left
          · simp only [Act.put, List.setIfInBounds_toArray, List.set_cons_zero, List.set_cons_succ, i64_w, i32_w]
            rfl
          refine take_ (i := 10) (N := some 25) (v := ?_) (a' := ?_) #[true, true, true, true, true, true, true, true, true, true, true, true, true, true, false, true, false, false, false, false] rfl rfl (by kernel_rfl) (fun _ _ _ h => h) (Or.inl ⟨by rfl, ?_⟩) hHeld ?_ ?_
          rotate_left
          · rintro w' ⟨s0, s1, s2, s3, s4, s5, s6, s7, s8⟩
            go_simp
            with_reducible rfl
          rotate_left
          · simp only [Act.put, List.setIfInBounds_toArray, List.set_cons_zero, List.set_cons_succ, i64_w, i32_w]
            rfl
          refine take_ (i := 14) (N := some 29) (v := ?_) (a' := ?_) #[true, true, true, true, true, true, true, true, true, true, true, true, true, true, true, true, false, false, false, false] rfl rfl (by kernel_rfl) (fun _ _ _ h => h) (Or.inl ⟨by rfl, ?_⟩) hHeld ?_ ?_
          rotate_left
          · rintro w' ⟨s0, s1, s2, s3, s4, s5, s6, s7, s8⟩
            go_simp
            with_reducible rfl
          rotate_left
          · simp only [Act.put, List.setIfInBounds_toArray, List.set_cons_zero, List.set_cons_succ, i64_w, i32_w]
            rfl
          refine pure_ (i := 16) (N := some 31) (v := ?_) (a' := ?_) #[true, true, true, true, true, true, true, true, true, true, true, true, true, true, true, true, true, false, false, false] rfl rfl (by kernel_rfl) (fun _ _ _ h => h) (Or.inl ⟨by rfl, ?_⟩) ?_ ?_
          rotate_left
          · intro w'
            go_simp
            with_reducible rfl
          rotate_left
          · simp only [Act.put, List.setIfInBounds_toArray, List.set_cons_zero, List.set_cons_succ, i64_w, i32_w]
            rfl
          refine take_ (i := 17) (N := some 32) (v := ?_) (a' := ?_) #[true, true, true, true, true, true, true, true, true, true, true, true, true, true, true, true, true, true, false, false] rfl rfl (by kernel_rfl) (fun _ _ _ h => h) (Or.inl ⟨by rfl, ?_⟩) hHeld ?_ ?_
          rotate_left
          · rintro w' ⟨s0, s1, s2, s3, s4, s5, s6, s7, s8⟩
            go_simp
            with_reducible rfl
          rotate_left
          · simp only [Act.put, List.setIfInBounds_toArray, List.set_cons_zero, List.set_cons_succ, i64_w, i32_w]
            rfl
          refine last_ (i := 18) (N := some 33) #[true, true, true, true, true, true, true, true, true, true, true, true, true, true, true, true, true, true, true, false] rfl rfl (by kernel_rfl) (by decide) (fun K hK => ?_)
          have n0_ : Aside0 (Below w.heap.size w wr.drew) := ⟨(below_step HB.out (below_drew1 (Below.refl wr.heap.size wr)))⟩
          have n1_ : Aside0 (DAt wr.drew F db (.slice (some ⟨g, 0, none⟩) L.length cap) va L sn) := ⟨(DAt.below HD.out (below_drew1 (Below.refl wr.heap.size wr)))⟩
          have n2_ : Aside0 (wr.drew.heap[gr]? = some (.cells #[(.int .i64 0), (.int .i64 0), (.int .i64 0)] 30 (0, 0))) := ⟨(blk_below BKgr.out (below_drew1 (Below.refl wr.heap.size wr)))⟩
          clear HB HD BKgr
          have HB := n0_
          have HD := n1_
          have BKgr := n2_
          clear n0_ n1_ n2_
          refine goes_ Try.func42 (by kernel_rfl) rfl #[.pointer (some ⟨db, 0, none⟩), .agg #[.int .i64 x.1.f0, .int .i64 x.1.f1, .int .i64 x.1.f2, .int .i64 x.2], .agg #[.int .i64 y.1.f0, .int .i64 y.1.f1, .int .i64 y.1.f2, .int .i64 y.2]] (by rfl) rfl rfl (by simp only [List.map_toArray, List.map_cons, List.map_nil]; rfl) ?_
          with_reducible refine (ahead_calls wr.drew F db _ va L sn HD.out x y HSN.out).mono ?_
          rintro e w3 ⟨rfl, hb⟩
          refine ⟨_, rfl, ?_⟩
          rw [HR.out]
          have n0_ : Aside0 (Below w.heap.size w w3) := ⟨(below_step HB.out hb)⟩
          have n1_ : Aside0 (DAt w3 F db (.slice (some ⟨g, 0, none⟩) L.length cap) va L sn) := ⟨(DAt.below HD.out hb)⟩
          have n2_ : Aside0 (w3.heap[gr]? = some (.cells #[(.int .i64 0), (.int .i64 0), (.int .i64 0)] 30 (0, 0))) := ⟨(blk_below BKgr.out hb)⟩
          clear HB HD BKgr
          have HB := n0_
          have HD := n1_
          have BKgr := n2_
          clear n0_ n1_ n2_
          clear hb
          refine hK.out _ _ ?_
          clear hK K
          refine norm_ (a' := ?_) ?_ ?_
          rotate_left
          · show Act.put _ (some 33) _ = _
            simp only [Act.put, List.setIfInBounds_toArray, List.set_cons_zero, List.set_cons_succ, i64_w, i32_w]
            rfl
          refine pure_ (i := 19) (N := some 34) (v := ?_) (a' := ?_) #[true, true, true, true, true, true, true, true, true, true, true, true, true, true, true, true, true, true, true, true] rfl rfl (by kernel_rfl) (fun _ _ _ h => h) (Or.inl ⟨by rfl, ?_⟩) ?_ ?_
          rotate_left
          · intro w'
            go_simp
            with_reducible rfl
          rotate_left
          · simp only [Act.put, List.setIfInBounds_toArray, List.set_cons_zero, List.set_cons_succ, i64_w, i32_w]
            rfl
          refine done_ (by kernel_rfl) ?_
          clear hx0 hx1 hx2 hx3 hd0 hy0 hy1 hy2 hy3
          go_wp2
          go_roundg (L.length - i)
          case measure => have := HGG.out; have := HIL.out; omega
          case rel =>
            have he : wrap64 (x5 + 1) = ((i + 1 : Nat) : Int) := by have := HI.out.1; have := HLL.out; have := HIL.out; rw [w64 (by omega) (by omega)]; omega
            refine ⟨x4, wrap64 (x5 + 1), i + 1, rfl, rfl, by have := HIL.out; omega, ⟨he, HIL.out, ?_⟩, HB, HD, BKgr⟩
            rw [HK.out.1]; exact Bst.keep HK.out.2.1 HK.out.2.2 (by rw [HX.out, HY.out]; exact HR.out)
    · have c2b : decide (x5 < (L.length : Int)) = false := decide_eq_false c2
      have c2f := eq_false c2
      have hil : i = L.length := by have := HI.out; omega
      have HIL := Aside0.mk hil
      clear c2 hil
      have hr0 : wr.cell? ⟨gr, 0, none⟩ = some (.int .i64 0) := (blk_cell BKgr.out 0).trans rfl
      have hr1 : wr.cell? ⟨gr, 1, none⟩ = some (.int .i64 0) := (blk_cell BKgr.out 1).trans rfl
      have hr2 : wr.cell? ⟨gr, 2, none⟩ = some (.int .i64 0) := (blk_cell BKgr.out 2).trans rfl
      have hrf0 := blk_frozen BKgr.out 0
      have hrf1 := blk_frozen BKgr.out 1
      have hrf2 := blk_frozen BKgr.out 2
      have HB5 := Aside0.mk HI.out.2.2
      rcases HB5.out with ⟨hi0, hx4⟩ | ⟨k, hk, hki, hbest⟩
      · have hhd := head_none (by rw [← HIL.out, hi0]) sn (L := L)
        have HCB : Aside0 ((c, b) = (z30, false)) := ⟨by rw [← HC.out, hhd]⟩
        have k4 : x4 < 0 := by omega
        have k4b := decide_eq_true k4
        have k4t := eq_true k4
        clear hi0 hx4 k4 hhd
        have hd0 : wr.cell? ⟨db, 0, none⟩ = some (.slice A L.length cap) := (blk_cell HD.out.blk 0).trans rfl
        go_wp2
        clear hr0 hr1 hr2 hrf0 hrf1 hrf2 hd0
        (try simp only [Exit.inBlock, Exit.then])
        refine bodyPost_ret (results_ct rfl _ _ gr 30 #[(.int .i64 0), (.int .i64 0), (.int .i64 0)] (0, 0) _ rfl (by refine blk_put (cs := #[(.int .i64 0), (.int .i64 0), (.int .i64 0)]) ?_ 2 _ rfl; refine blk_put (cs := #[(.int .i64 0), (.int .i64 0), (.int .i64 0)]) ?_ 1 _ rfl; refine blk_put (cs := #[(.int .i64 0), (.int .i64 0), (.int .i64 0)]) ?_ 0 _ rfl; exact BKgr.out) Try.underlying30 rfl (by kernel_rfl)) rfl ?_
        have h := HCB.out
        injection h with h1 h2
        subst h1 h2
        exact ⟨rfl, below_set (below_set (below_set HB.out GEgr.out) GEgr.out) GEgr.out⟩
      · have hkl : k < L.length := by have := HIL.out; omega
        have hhd := best_head HU.out hkl (fun j hj => hbest j (by rw [HIL.out]; exact hj))
        obtain ⟨g, cap2, hv, _, _, _⟩ := Kd.R_form HD.out.list (by omega)
        injection hv with hA _ hc2
        subst hA
        subst hc2
        have k4 : ¬ x4 < 0 := by omega
        have k40 : 0 ≤ x4 := by omega
        have k41 : x4 < (L.length : Int) := by omega
        have k4b := decide_eq_false k4
        have k4f := eq_false k4
        obtain ⟨he, _⟩ := elW HD.out.list x4 k40 k41
        have k40b := decide_eq_true k40
        have k41b := decide_eq_true k41
        have k40t := eq_true k40
        have k41t := eq_true k41
        obtain ⟨y, hy⟩ : ∃ y, L.getD x4.toNat zWt = y := ⟨_, rfl⟩
        rw [hy] at he
        have HCB : Aside0 ((c, b) = (y.1, true)) := ⟨by rw [← HC.out, hhd, ← hy, hk, Int.toNat_natCast]⟩
        have hy0 : wr.cell? ⟨g, x4.toNat * 4, none⟩ = some (.int .i64 y.1.f0) := he 0 _ rfl
        have hy1 : wr.cell? ⟨g, x4.toNat * 4 + 1, none⟩ = some (.int .i64 y.1.f1) := he 1 _ rfl
        have hy2 : wr.cell? ⟨g, x4.toNat * 4 + 2, none⟩ = some (.int .i64 y.1.f2) := he 2 _ rfl
        have hd0 : wr.cell? ⟨db, 0, none⟩ = some (.slice (some ⟨g, 0, none⟩) L.length cap) := (blk_cell HD.out.blk 0).trans rfl
        clear hk hki hbest k4 k40 k41 hy he hhd hkl
        go_wp2
        clear hr0 hr1 hr2 hrf0 hrf1 hrf2 hy0 hy1 hy2 hd0
        (try simp only [Exit.inBlock, Exit.then])
        refine bodyPost_ret (results_ct rfl _ _ gr 30 #[(.int .i64 y.1.f0), (.int .i64 y.1.f1), (.int .i64 y.1.f2)] (0, 0) _ rfl (by refine blk_put (cs := #[(.int .i64 y.1.f0), (.int .i64 y.1.f1), (.int .i64 0)]) ?_ 2 _ rfl; refine blk_put (cs := #[(.int .i64 y.1.f0), (.int .i64 0), (.int .i64 0)]) ?_ 1 _ rfl; refine blk_put (cs := #[(.int .i64 0), (.int .i64 0), (.int .i64 0)]) ?_ 0 _ rfl; exact BKgr.out) Try.underlying30 rfl (by kernel_rfl)) rfl ?_
        have h := HCB.out
        injection h with h1 h2
        subst h1 h2
        exact ⟨rfl, below_set (below_set (below_set HB.out GEgr.out) GEgr.out) GEgr.out⟩
end Go.Proofs.Ytgkbcgmcpbbneaa.Q
