/- The document's queue in memory: a list of waiting cells, and areas. -/
import Derived.Test.YtgkbcgmcpbbneaaPlc
namespace Go.Proofs.Ytgkbcgmcpbbneaa.Q
open Go Go.RowKit Go.Maps Go.Proofs.YtgkbcgmcpbbneaaW.PrintWords
set_option maxRecDepth 100000
set_option linter.unusedVariables false
set_option linter.unusedSimpArgs false
def zWt : Wt := (z30, 0)
def wc4 (x : Wt) : List Value := [.int .i64 x.1.f0, .int .i64 x.1.f1, .int .i64 x.1.f2, .int .i64 x.2]
def k69 : Kd Wt := Kd.iso (Kd.pair k30 (Kd.int .i64)) (fun x : Wt => (x.1, x.2))
theorem info69 : (Try.prog.info? 69).map (fun i => (i.zero, i.size, i.bytes)) = some (some (.agg #[.int .i64 0, .int .i64 0, .int .i64 0, .int .i64 0]), 4, 32) := by kernel_rfl
theorem k69_open {w : World} {x : Wt} {cs : List Value} (h : k69.K w x cs) : cs = wc4 x := by
  obtain ⟨_, _, rfl, h1, rfl⟩ := h
  obtain rfl := k30_open h1
  rfl
theorem k69_mkM (w : World) (base : Nat) (ok : Nat → Prop) (x : Wt) : k69.M w base ok x (wc4 x) := ⟨[.int .i64 x.1.f0, .int .i64 x.1.f1, .int .i64 x.1.f2], [.int .i64 x.2], rfl, k30_mkM _ _ _ x.1, rfl⟩
structure DAt (w : World) (F : Nat → Prop) (db : Nat) (vl va : Value) (L : List Wt) (sn : List S46) : Prop where
  blk : w.heap[db]? = some (.cells #[vl, va] 41 (0, 0))
  list : Kd.R k69 69 w 0 F vl L
  seen : Kd.R k46 46 w 0 F va sn
  fd : F db
theorem DAt.below {w w' : World} {F : Nat → Prop} {db : Nat} {vl va : Value} {L : List Wt} {sn : List S46} (h : DAt w F db vl va L sn) (hb : Below w.heap.size w w') : DAt w' F db vl va L sn := ⟨(hb.block db (blk_lt h.blk)).trans h.blk, Kd.R_below h.list hb, Kd.R_below h.seen hb, h.fd⟩
end Go.Proofs.Ytgkbcgmcpbbneaa.Q

/- The walks of the document's queue. -/
namespace Go.Proofs.Ytgkbcgmcpbbneaa.Q
open Go Go.RowKit Go.Maps Go.Proofs.YtgkbcgmcpbbneaaW.PrintWords Go.Proofs.YtgkbcgmcpbbneaaW.PrintLast Go.Proofs.YtgkbcgmcpbbneaaW.PrintMore
set_option maxRecDepth 100000
set_option linter.unusedVariables false
set_option linter.unusedSimpArgs false
attribute [local go_sem high] eqA30
def posL (L : List Wt) (c : S30) : Int := if (look L c).isSome then (L.findIdx (fun p => decide (p.1 = c)) : Int) else -1
theorem rdW (L : List Wt) (i : Nat) (hi : i < L.length) : L.getD i zWt = L[i] := by rw [List.getD_eq_getElem?_getD, List.getElem?_eq_getElem hi]; rfl
theorem elW {w : World} {ok : Nat → Prop} {g n cap : Nat} {L : List Wt} (h : Kd.R k69 69 w 0 ok (.slice (some ⟨g, 0, none⟩) n cap) L) (i : Int) (h0 : 0 ≤ i) (h1 : i < n) : (∀ j u, (wc4 (L.getD i.toNat zWt))[j]? = some u → w.cell? ⟨g, i.toNat * 4 + j, none⟩ = some u) ∧ ∀ j, w.frozen? ⟨g, i.toNat * 4 + j, none⟩ = false := by
  obtain ⟨c, hcl, hM, hcc, hfr⟩ := Kd.R_elem h zWt i h0 h1
  obtain rfl := k69_open (k69.K_of_M hM)
  exact ⟨hcc, hfr⟩
theorem pos_at {L : List Wt} {c : S30} {i : Nat} (hi : i < L.length) (h : L[i].1 = c) (hp : ∀ j (hj : j < i), (L[j]'(by omega)).1 ≠ c) : posL L c = (i : Int) := by
  have h1 : (look L c).isSome = true := look_isSome.2 (List.mem_map.2 ⟨L[i], List.getElem_mem hi, h⟩)
  unfold posL
  rw [if_pos h1]
  have : L.findIdx (fun p => decide (p.1 = c)) = i := (List.findIdx_eq hi).2 ⟨by simpa using h, fun j hj => by simpa using hp j hj⟩
  rw [this]
theorem pos_none {L : List Wt} {c : S30} (hp : ∀ j (hj : j < L.length), L[j].1 ≠ c) : posL L c = -1 := by
  unfold posL
  rw [if_neg]
  intro h
  obtain ⟨p, hpl, e⟩ := List.mem_map.1 (look_isSome.1 h)
  obtain ⟨j, hj, rfl⟩ := List.getElem_of_mem hpl
  exact hp j hj e

set_option maxHeartbeats 8000000 in
theorem find_calls (w : World) (F : Nat → Prop) (db : Nat) (vl va : Value) (L : List Wt) (sn : List S46) (hD : DAt w F db vl va L sn) (c : S30) (hl : L.length ≤ 1000000) : Calls Try.prog 31 #[.pointer (some ⟨db, 0, none⟩), .agg #[.int .i64 c.f0, .int .i64 c.f1, .int .i64 c.f2]] w fun e w' => e = .returned (.int .i64 (posL L c)) ∧ Below w.heap.size w w' := by
  have hu30 := Try.underlying30
  have hu38 := Try.underlying38
  have hu41 := Try.underlying41
  have hu69 := Try.underlying69
  have HLL := Aside0.mk hl
  clear hl
  obtain ⟨A, cap, ev⟩ := Kd.R_slice hD.list
  subst ev
  have HD := Aside0.mk hD
  have HB : Aside0 (Below w.heap.size w w) := ⟨Below.refl _ _⟩
  clear hD
  go_enter Try.func31, Try.ntmps31
  go_wp2_with ((with_reducible refine gate_dst (N := 3) rfl ?_); refine box_event ?hg (N := 3) ?hd (cs := #[(.int .i64 c.f0), (.int .i64 c.f1), (.int .i64 c.f2)]) (t := 30) ?hr ?_; (case hd => rfl); (case hg => rfl); (case hr => first | (go_simp; done) | (go_simp; rfl)); intro gc hg w1 hbox hb; have GEgc : Aside0 (w.heap.size ≤ gc) := ⟨by rw [hg]; exact Nat.le_refl _⟩; have n0_ : Aside0 (Below w.heap.size w w1) := ⟨(below_step HB.out hb)⟩; have n1_ : Aside0 (DAt w1 F db (.slice A L.length cap) va L sn) := ⟨(DAt.below HD.out hb)⟩; clear HB HD; have HB := n0_; have HD := n1_; clear n0_ n1_; have BKgc : Aside0 (w1.heap[gc]? = some (.cells #[(.int .i64 c.f0), (.int .i64 c.f1), (.int .i64 c.f2)] 30 (0, 0))) := ⟨hbox⟩; clear hb hbox hg)
  go_loopg [5] (L.length + 1) (fun gg v5 wr => ∃ (x5 : Int) (i : Nat), v5 = .int .i64 x5 ∧ L.length - i + 1 ≤ gg ∧ Aside0 (x5 = (i : Int) ∧ i ≤ L.length ∧ ∀ j (hj : j < L.length), j < i → L[j].1 ≠ c) ∧ Aside0 (Below w.heap.size w wr) ∧ Aside0 (DAt wr F db (.slice A L.length cap) va L sn) ∧ Aside0 (wr.heap[gc]? = some (.cells #[(.int .i64 c.f0), (.int .i64 c.f1), (.int .i64 c.f2)] 30 (0, 0))))
  case atStart => exact ⟨0, 0, rfl, by omega, ⟨rfl, Nat.zero_le _, fun j _ h => absurd h (Nat.not_lt_zero _)⟩, HB, HD, BKgc⟩
  case round =>
    clear HB HD BKgc
    obtain ⟨x5, i, rfl, hgg, HI, HB, HD, BKgc⟩ := hrel
    have HGG := Aside0.mk hgg
    clear hgg
    by_cases c2 : x5 < (L.length : Int)
    · have c2b : decide (x5 < (L.length : Int)) = true := decide_eq_true c2
      have c3 : 0 ≤ x5 := by have := HI.out.1; omega
      have c3b : decide (0 ≤ x5) = true := decide_eq_true c3
      have hil : i < L.length := by have := HI.out.1; omega
      obtain ⟨g, cap2, hv, _, _, _⟩ := Kd.R_form HD.out.list (by omega)
      injection hv with hA _ hc2
      subst hA
      subst hc2
      obtain ⟨he, _⟩ := elW HD.out.list x5 c3 c2
      have HIL := Aside0.mk hil
      obtain ⟨x, hx⟩ : ∃ x, L.getD x5.toNat zWt = x := ⟨_, rfl⟩
      rw [hx] at he
      have HX : Aside0 (L.getD i zWt = x) := ⟨by rw [← hx, HI.out.1, Int.toNat_natCast]⟩
      have hx0 : wr.cell? ⟨g, x5.toNat * 4 + 0, none⟩ = some (.int .i64 x.1.f0) := he 0 _ rfl
      have hx1 : wr.cell? ⟨g, x5.toNat * 4 + 1, none⟩ = some (.int .i64 x.1.f1) := he 1 _ rfl
      have hx2 : wr.cell? ⟨g, x5.toNat * 4 + 2, none⟩ = some (.int .i64 x.1.f2) := he 2 _ rfl
      have c2t := eq_true c2
      have c3t := eq_true c3
      clear c2 c3 hil hx he
      have hd0 : wr.cell? ⟨db, 0, none⟩ = some (.slice (some ⟨g, 0, none⟩) L.length cap) := (blk_cell HD.out.blk 0).trans rfl
      go_wp2
      by_cases k : x.1 = c
      · have kb : (x.1.f0 == c.f0 && (x.1.f1 == c.f1 && x.1.f2 == c.f2)) = true := by rw [k]; simp
        have K := Aside0.mk k
        clear k
        refine start_ (n := 10) (S := fun w' => w'.cell? ⟨db, 0, none⟩ = some (.slice (some ⟨g, 0, none⟩) L.length cap) ∧ w'.cell? ⟨gc, 0, none⟩ = some (.int .i64 c.f0) ∧ w'.cell? ⟨gc, 1, none⟩ = some (.int .i64 c.f1) ∧ w'.cell? ⟨gc, 2, none⟩ = some (.int .i64 c.f2) ∧ w'.cell? ⟨g, x5.toNat * 4, none⟩ = some (.int .i64 x.1.f0) ∧ w'.cell? ⟨g, x5.toNat * 4 + 1, none⟩ = some (.int .i64 x.1.f1) ∧ w'.cell? ⟨g, x5.toNat * 4 + 2, none⟩ = some (.int .i64 x.1.f2)) (ds := []) #[false, false, false, false, false, false, false, false, false, false] (by kernel_rfl) rfl rfl ⟨hd0, (blk_cell BKgc.out 0).trans rfl, (blk_cell BKgc.out 1).trans rfl, (blk_cell BKgc.out 2).trans rfl, hx0, hx1, hx2⟩ (fun hHeld => ?_)
        refine pure_ (i := 0) (N := some 15) (v := ?_) (a' := ?_) #[true, false, false, false, false, false, false, false, false, false] rfl rfl (by kernel_rfl) (fun _ _ _ h => h) (Or.inl ⟨by rfl, ?_⟩) ?_ ?_
        rotate_left
        · intro w'
          go_simp
          with_reducible rfl
        rotate_left
        · simp only [Act.put, List.setIfInBounds_toArray, List.set_cons_zero, List.set_cons_succ, i64_w, i32_w]
          rfl
        refine pure_ (i := 1) (N := some 16) (v := ?_) (a' := ?_) #[true, true, false, false, false, false, false, false, false, false] rfl rfl (by kernel_rfl) (fun _ _ _ h => h) (Or.inl ⟨by rfl, ?_⟩) ?_ ?_
        rotate_left
        · intro w'
          go_simp
          with_reducible rfl
        rotate_left
        · simp only [Act.put, List.setIfInBounds_toArray, List.set_cons_zero, List.set_cons_succ, i64_w, i32_w]
          rfl
        refine pure_ (i := 2) (N := some 17) (v := ?_) (a' := ?_) #[true, true, true, false, false, false, false, false, false, false] rfl rfl (by kernel_rfl) (fun _ _ _ h => h) (Or.inl ⟨by rfl, ?_⟩) ?_ ?_
        rotate_left
        · intro w'
          go_simp
          with_reducible rfl
        rotate_left
        · simp only [Act.put, List.setIfInBounds_toArray, List.set_cons_zero, List.set_cons_succ, i64_w, i32_w]
          rfl
        refine pure_ (i := 4) (N := some 19) (v := ?_) (a' := ?_) #[true, true, true, false, true, false, false, false, false, false] rfl rfl (by kernel_rfl) (fun _ _ _ h => h) (Or.inl ⟨by rfl, ?_⟩) ?_ ?_
        rotate_left
        · intro w'
          go_simp
          with_reducible rfl
        rotate_left
        · simp only [Act.put, List.setIfInBounds_toArray, List.set_cons_zero, List.set_cons_succ, i64_w, i32_w]
          rfl
        refine take_ (i := 3) (N := some 18) (v := ?_) (a' := ?_) #[true, true, true, true, true, false, false, false, false, false] rfl rfl (by kernel_rfl) (fun _ _ _ h => h) (Or.inl ⟨by rfl, ?_⟩) hHeld ?_ ?_
        rotate_left
        · rintro w' ⟨s0, s1, s2, s3, s4, s5, s6⟩
          go_simp
          with_reducible rfl
        rotate_left
        · simp only [Act.put, List.setIfInBounds_toArray, List.set_cons_zero, List.set_cons_succ, i64_w, i32_w]
          rfl
        refine pure_ (i := 5) (N := some 20) (v := ?_) (a' := ?_) #[true, true, true, true, true, true, false, false, false, false] rfl rfl (by kernel_rfl) (fun _ _ _ h => h) (Or.inl ⟨by rfl, ?_⟩) ?_ ?_
        rotate_left
        · intro w'
          go_simp
          with_reducible rfl
        rotate_left
        · simp only [Act.put, List.setIfInBounds_toArray, List.set_cons_zero, List.set_cons_succ, i64_w, i32_w]
          rfl
        refine pure_ (i := 6) (N := some 21) (v := ?_) (a' := ?_) #[true, true, true, true, true, true, true, false, false, false] rfl rfl (by kernel_rfl) (fun _ _ _ h => h) (Or.inl ⟨by rfl, ?_⟩) ?_ ?_
        rotate_left
        · intro w'
          go_simp
          with_reducible rfl
        rotate_left
        · simp only [Act.put, List.setIfInBounds_toArray, List.set_cons_zero, List.set_cons_succ, i64_w, i32_w]
          rfl
        refine take_ (i := 7) (N := some 22) (v := ?_) (a' := ?_) #[true, true, true, true, true, true, true, true, false, false] rfl rfl (by kernel_rfl) (fun _ _ _ h => h) (Or.inl ⟨by rfl, ?_⟩) hHeld ?_ ?_
        rotate_left
        · rintro w' ⟨s0, s1, s2, s3, s4, s5, s6⟩
          go_simp
          with_reducible rfl
        rotate_left
        · simp only [Act.put, List.setIfInBounds_toArray, List.set_cons_zero, List.set_cons_succ, i64_w, i32_w]
          rfl
        refine take_ (i := 8) (N := some 23) (v := ?_) (a' := ?_) #[true, true, true, true, true, true, true, true, true, false] rfl rfl (by kernel_rfl) (fun _ _ _ h => h) (Or.inl ⟨by rfl, ?_⟩) hHeld ?_ ?_
        rotate_left
        · rintro w' ⟨s0, s1, s2, s3, s4, s5, s6⟩
          go_simp
          with_reducible rfl
        rotate_left
        · simp only [Act.put, List.setIfInBounds_toArray, List.set_cons_zero, List.set_cons_succ, i64_w, i32_w]
          rfl
        refine pure_ (i := 9) (N := some 24) (v := ?_) (a' := ?_) #[true, true, true, true, true, true, true, true, true, true] rfl rfl (by kernel_rfl) (fun _ _ _ h => h) (Or.inl ⟨by rfl, ?_⟩) ?_ ?_
        rotate_left
        · intro w'
          go_simp
          with_reducible rfl
        rotate_left
        · simp only [Act.put, List.setIfInBounds_toArray, List.set_cons_zero, List.set_cons_succ, i64_w, i32_w]
          rfl
        refine done_ (by kernel_rfl) ?_
        have n0_ : Aside0 (Below w.heap.size w wr.drew) := ⟨below_drew1 HB.out⟩
        generalize wr.drew = w3 at n0_ ⊢
        go_wp2
        go_ret
        have hil := HIL.out
        have hp : posL L c = (i : Int) := pos_at hil (by rw [← rdW L i hil, HX.out]; exact K.out) (fun j hj => HI.out.2.2 j (by omega) hj)
        exact ⟨by rw [hp, ← HI.out.1]; rfl, n0_.out⟩
      · have kb : (x.1.f0 == c.f0 && (x.1.f1 == c.f1 && x.1.f2 == c.f2)) = false := by
          cases hh : (x.1.f0 == c.f0 && (x.1.f1 == c.f1 && x.1.f2 == c.f2)) with
          | false => rfl
          | true => exact absurd (by obtain ⟨⟨a0, a1, a2⟩, _⟩ := x; obtain ⟨b0, b1, b2⟩ := c; simp at hh; obtain ⟨rfl, rfl, rfl⟩ := hh; rfl) k
        have K := Aside0.mk k
        clear k
        refine start_ (n := 10) (S := fun w' => w'.cell? ⟨db, 0, none⟩ = some (.slice (some ⟨g, 0, none⟩) L.length cap) ∧ w'.cell? ⟨gc, 0, none⟩ = some (.int .i64 c.f0) ∧ w'.cell? ⟨gc, 1, none⟩ = some (.int .i64 c.f1) ∧ w'.cell? ⟨gc, 2, none⟩ = some (.int .i64 c.f2) ∧ w'.cell? ⟨g, x5.toNat * 4, none⟩ = some (.int .i64 x.1.f0) ∧ w'.cell? ⟨g, x5.toNat * 4 + 1, none⟩ = some (.int .i64 x.1.f1) ∧ w'.cell? ⟨g, x5.toNat * 4 + 2, none⟩ = some (.int .i64 x.1.f2)) (ds := []) #[false, false, false, false, false, false, false, false, false, false] (by kernel_rfl) rfl rfl ⟨hd0, (blk_cell BKgc.out 0).trans rfl, (blk_cell BKgc.out 1).trans rfl, (blk_cell BKgc.out 2).trans rfl, hx0, hx1, hx2⟩ (fun hHeld => ?_)
        refine pure_ (i := 0) (N := some 15) (v := ?_) (a' := ?_) #[true, false, false, false, false, false, false, false, false, false] rfl rfl (by kernel_rfl) (fun _ _ _ h => h) (Or.inl ⟨by rfl, ?_⟩) ?_ ?_
        rotate_left
        · intro w'
          go_simp
          with_reducible rfl
        rotate_left
        · simp only [Act.put, List.setIfInBounds_toArray, List.set_cons_zero, List.set_cons_succ, i64_w, i32_w]
          rfl
        refine pure_ (i := 1) (N := some 16) (v := ?_) (a' := ?_) #[true, true, false, false, false, false, false, false, false, false] rfl rfl (by kernel_rfl) (fun _ _ _ h => h) (Or.inl ⟨by rfl, ?_⟩) ?_ ?_
        rotate_left
        · intro w'
          go_simp
          with_reducible rfl
        rotate_left
        · simp only [Act.put, List.setIfInBounds_toArray, List.set_cons_zero, List.set_cons_succ, i64_w, i32_w]
          rfl
        refine pure_ (i := 2) (N := some 17) (v := ?_) (a' := ?_) #[true, true, true, false, false, false, false, false, false, false] rfl rfl (by kernel_rfl) (fun _ _ _ h => h) (Or.inl ⟨by rfl, ?_⟩) ?_ ?_
        rotate_left
        · intro w'
          go_simp
          with_reducible rfl
        rotate_left
        · simp only [Act.put, List.setIfInBounds_toArray, List.set_cons_zero, List.set_cons_succ, i64_w, i32_w]
          rfl
        refine pure_ (i := 4) (N := some 19) (v := ?_) (a' := ?_) #[true, true, true, false, true, false, false, false, false, false] rfl rfl (by kernel_rfl) (fun _ _ _ h => h) (Or.inl ⟨by rfl, ?_⟩) ?_ ?_
        rotate_left
        · intro w'
          go_simp
          with_reducible rfl
        rotate_left
        · simp only [Act.put, List.setIfInBounds_toArray, List.set_cons_zero, List.set_cons_succ, i64_w, i32_w]
          rfl
        refine take_ (i := 3) (N := some 18) (v := ?_) (a' := ?_) #[true, true, true, true, true, false, false, false, false, false] rfl rfl (by kernel_rfl) (fun _ _ _ h => h) (Or.inl ⟨by rfl, ?_⟩) hHeld ?_ ?_
        rotate_left
        · rintro w' ⟨s0, s1, s2, s3, s4, s5, s6⟩
          go_simp
          with_reducible rfl
        rotate_left
        · simp only [Act.put, List.setIfInBounds_toArray, List.set_cons_zero, List.set_cons_succ, i64_w, i32_w]
          rfl
        refine pure_ (i := 5) (N := some 20) (v := ?_) (a' := ?_) #[true, true, true, true, true, true, false, false, false, false] rfl rfl (by kernel_rfl) (fun _ _ _ h => h) (Or.inl ⟨by rfl, ?_⟩) ?_ ?_
        rotate_left
        · intro w'
          go_simp
          with_reducible rfl
        rotate_left
        · simp only [Act.put, List.setIfInBounds_toArray, List.set_cons_zero, List.set_cons_succ, i64_w, i32_w]
          rfl
        refine pure_ (i := 6) (N := some 21) (v := ?_) (a' := ?_) #[true, true, true, true, true, true, true, false, false, false] rfl rfl (by kernel_rfl) (fun _ _ _ h => h) (Or.inl ⟨by rfl, ?_⟩) ?_ ?_
        rotate_left
        · intro w'
          go_simp
          with_reducible rfl
        rotate_left
        · simp only [Act.put, List.setIfInBounds_toArray, List.set_cons_zero, List.set_cons_succ, i64_w, i32_w]
          rfl
        refine take_ (i := 7) (N := some 22) (v := ?_) (a' := ?_) #[true, true, true, true, true, true, true, true, false, false] rfl rfl (by kernel_rfl) (fun _ _ _ h => h) (Or.inl ⟨by rfl, ?_⟩) hHeld ?_ ?_
        rotate_left
        · rintro w' ⟨s0, s1, s2, s3, s4, s5, s6⟩
          go_simp
          with_reducible rfl
        rotate_left
        · simp only [Act.put, List.setIfInBounds_toArray, List.set_cons_zero, List.set_cons_succ, i64_w, i32_w]
          rfl
        refine take_ (i := 8) (N := some 23) (v := ?_) (a' := ?_) #[true, true, true, true, true, true, true, true, true, false] rfl rfl (by kernel_rfl) (fun _ _ _ h => h) (Or.inl ⟨by rfl, ?_⟩) hHeld ?_ ?_
        rotate_left
        · rintro w' ⟨s0, s1, s2, s3, s4, s5, s6⟩
          go_simp
          with_reducible rfl
        rotate_left
        · simp only [Act.put, List.setIfInBounds_toArray, List.set_cons_zero, List.set_cons_succ, i64_w, i32_w]
          rfl
        refine pure_ (i := 9) (N := some 24) (v := ?_) (a' := ?_) #[true, true, true, true, true, true, true, true, true, true] rfl rfl (by kernel_rfl) (fun _ _ _ h => h) (Or.inl ⟨by rfl, ?_⟩) ?_ ?_
        rotate_left
        · intro w'
          go_simp
          with_reducible rfl
        rotate_left
        · simp only [Act.put, List.setIfInBounds_toArray, List.set_cons_zero, List.set_cons_succ, i64_w, i32_w]
          rfl
        refine done_ (by kernel_rfl) ?_
        clear hx0 hx1 hx2 hd0
        have n0_ : Aside0 (Below w.heap.size w wr.drew) := ⟨(below_step HB.out (below_drew1 (Below.refl wr.heap.size wr)))⟩
        have n1_ : Aside0 (DAt wr.drew F db (.slice (some ⟨g, 0, none⟩) L.length cap) va L sn) := ⟨(DAt.below HD.out (below_drew1 (Below.refl wr.heap.size wr)))⟩
        have n2_ : Aside0 (wr.drew.heap[gc]? = some (.cells #[(.int .i64 c.f0), (.int .i64 c.f1), (.int .i64 c.f2)] 30 (0, 0))) := ⟨(blk_below BKgc.out (below_drew1 (Below.refl wr.heap.size wr)))⟩
        clear HB HD BKgc
        have HB := n0_
        have HD := n1_
        have BKgc := n2_
        clear n0_ n1_ n2_
        go_wp2
        go_roundg (L.length - i)
        case measure => have := HGG.out; have := HIL.out; omega
        case rel =>
          have he : wrap64 (x5 + 1) = ((i + 1 : Nat) : Int) := by have := HI.out.1; have := HLL.out; have := HIL.out; rw [w64 (by omega) (by omega)]; omega
          refine ⟨wrap64 (x5 + 1), i + 1, rfl, by have := HIL.out; omega, ⟨he, HIL.out, fun j hj hji => ?_⟩, HB, HD, BKgc⟩
          by_cases e : j = i
          · subst e; rw [← rdW L j hj, HX.out]; exact K.out
          · exact HI.out.2.2 j hj (by omega)
    · have c2b : decide (x5 < (L.length : Int)) = false := decide_eq_false c2
      have hd0 : wr.cell? ⟨db, 0, none⟩ = some (.slice A L.length cap) := (blk_cell HD.out.blk 0).trans rfl
      have hi : i = L.length := by have := HI.out.1; have := HI.out.2.1; omega
      have HP : Aside0 (posL L c = -1) := ⟨pos_none (fun j hj => HI.out.2.2 j hj (by omega))⟩
      clear c2 hi
      go_wp2
      go_ret
      exact ⟨by rw [HP.out]; rfl, HB.out⟩
theorem sees_l0 (ys : List S46) (hl : ys.length ≤ Big) (c : S30) : ∀ (d i : Nat), i + d = ys.length → ∃ k, whittleref14_Sees.l0 k ys (i : Int) c.f0 c.f1 c.f2 = some ((ys.drop i).any (fun a => hasA a c))
  | 0, i, hi => ⟨1, by simp only [whittleref14_Sees.l0]; rw [if_neg (by omega), List.drop_eq_nil_iff.mpr (by omega)]; rfl⟩
  | d + 1, i, hi => by
    obtain ⟨k, hk⟩ := sees_l0 ys hl c d (i + 1) (by omega)
    have hB : Big = 140737488351232 := rfl
    have hil : i < ys.length := by omega
    have e : wrap64 ((i : Int) + 1) = ((i + 1 : Nat) : Int) := by rw [w64 (by omega) (by omega)]; rfl
    refine ⟨k + 1, ?_⟩
    simp only [whittleref14_Sees.l0]
    rw [if_pos (by omega), if_pos (by omega), rd46 ys i hil, refHas_f, Option.bind_some, List.drop_eq_getElem_cons hil, List.any_cons]
    cases h : hasA ys[i] c with
    | true => rw [if_pos rfl]; rfl
    | false => rw [if_neg (by decide), e, hk]; rfl
theorem sees_f (ys : List S46) (hl : ys.length ≤ Big) (c : S30) : ∃ k, whittleref14_Sees.f k ys c.f0 c.f1 c.f2 = some (ys.any (fun a => hasA a c)) := sees_l0 ys hl c ys.length 0 (by omega)
def entW (sn : List S46) (p : Wt) : S63 := ⟨if sn.any (fun a => hasA a p.1) then 0 else 1, p.2, p.1⟩
set_option maxHeartbeats 8000000 in
theorem ahead_calls (w : World) (F : Nat → Prop) (db : Nat) (vl va : Value) (L : List Wt) (sn : List S46) (hD : DAt w F db vl va L sn) (x y : Wt) (hl : sn.length ≤ 1000000) : Calls Try.prog 42 #[.pointer (some ⟨db, 0, none⟩), .agg #[.int .i64 x.1.f0, .int .i64 x.1.f1, .int .i64 x.1.f2, .int .i64 x.2], .agg #[.int .i64 y.1.f0, .int .i64 y.1.f1, .int .i64 y.1.f2, .int .i64 y.2]] w fun e w' => e = .returned (.bool (ltE (entW sn x) (entW sn y))) ∧ Below w.heap.size w w' := by
  have hu30 := Try.underlying30
  have hu39 := Try.underlying39
  have hu41 := Try.underlying41
  have hu69 := Try.underlying69
  have HSN := Aside0.mk hl
  clear hl
  obtain ⟨B, bc, ev⟩ := Kd.R_slice hD.seen
  subst ev
  have HD := Aside0.mk hD
  have HB : Aside0 (Below w.heap.size w w) := ⟨Below.refl _ _⟩
  clear hD
  obtain ⟨sx, hsx⟩ : ∃ b, sn.any (fun a => hasA a x.1) = b := ⟨_, rfl⟩
  obtain ⟨sy, hsy⟩ : ∃ b, sn.any (fun a => hasA a y.1) = b := ⟨_, rfl⟩
  obtain ⟨kx, hkx⟩ := sees_f sn (Nat.le_trans HSN.out (by decide)) x.1
  obtain ⟨ky, hky⟩ := sees_f sn (Nat.le_trans HSN.out (by decide)) y.1
  rw [hsx] at hkx
  rw [hsy] at hky
  have HKX := Aside0.mk hkx
  have HKY := Aside0.mk hky
  have HE : Aside0 (ltE (entW sn x) (entW sn y) = ltE ⟨if sx then 0 else 1, x.2, x.1⟩ ⟨if sy then 0 else 1, y.2, y.1⟩) := ⟨by unfold entW; rw [hsx, hsy]⟩
  clear hsx hsy hkx hky
  go_enter Try.func42, Try.ntmps42
  go_wp2_with (first | ((with_reducible refine gate_dst (N := 4) rfl ?_); refine box_event ?hg (N := 4) ?hd (cs := #[(.int .i64 x.1.f0), (.int .i64 x.1.f1), (.int .i64 x.1.f2), (.int .i64 x.2)]) (t := 69) ?hr ?_; (case hd => rfl); (case hg => rfl); (case hr => first | (go_simp; done) | (go_simp; rfl)); intro gx hg w1 hbox hb; have GEgx : Aside0 (w.heap.size ≤ gx) := ⟨by rw [hg]; exact Nat.le_refl _⟩; have n0_ : Aside0 (Below w.heap.size w w1) := ⟨(below_step HB.out hb)⟩; have n1_ : Aside0 (DAt w1 F db vl (.slice B sn.length bc) L sn) := ⟨(DAt.below HD.out hb)⟩; clear HB HD; have HB := n0_; have HD := n1_; clear n0_ n1_; have BKgx : Aside0 (w1.heap[gx]? = some (.cells #[(.int .i64 x.1.f0), (.int .i64 x.1.f1), (.int .i64 x.1.f2), (.int .i64 x.2)] 69 (0, 0))) := ⟨hbox⟩; clear hb hbox hg) | ((with_reducible refine gate_dst (N := 5) rfl ?_); refine box_event ?hg (N := 5) ?hd (cs := #[(.int .i64 y.1.f0), (.int .i64 y.1.f1), (.int .i64 y.1.f2), (.int .i64 y.2)]) (t := 69) ?hr ?_; (case hd => rfl); (case hg => rfl); (case hr => first | (go_simp; done) | (go_simp; rfl)); intro gy hg w2 hbox hb; have GEgy : Aside0 (w.heap.size ≤ gy) := ⟨by rw [hg]; exact HB.out.size⟩; have n0_ : Aside0 (Below w.heap.size w w2) := ⟨(below_step HB.out hb)⟩; have n1_ : Aside0 (DAt w2 F db vl (.slice B sn.length bc) L sn) := ⟨(DAt.below HD.out hb)⟩; have n2_ : Aside0 (w2.heap[gx]? = some (.cells #[(.int .i64 x.1.f0), (.int .i64 x.1.f1), (.int .i64 x.1.f2), (.int .i64 x.2)] 69 (0, 0))) := ⟨(blk_below BKgx.out hb)⟩; clear HB HD BKgx; have HB := n0_; have HD := n1_; have BKgx := n2_; clear n0_ n1_ n2_; have BKgy : Aside0 (w2.heap[gy]? = some (.cells #[(.int .i64 y.1.f0), (.int .i64 y.1.f1), (.int .i64 y.1.f2), (.int .i64 y.2)] 69 (0, 0))) := ⟨hbox⟩; clear hb hbox hg))
  refine start_ (n := 8) (S := fun w' => w'.cell? ⟨db, 1, none⟩ = some (.slice B sn.length bc) ∧ w'.cell? ⟨gx, 0, none⟩ = some (.int .i64 x.1.f0) ∧ w'.cell? ⟨gx, 1, none⟩ = some (.int .i64 x.1.f1) ∧ w'.cell? ⟨gx, 2, none⟩ = some (.int .i64 x.1.f2)) (ds := [6]) #[false, false, false, false, false, false, false, false] (by kernel_rfl) rfl rfl ⟨(blk_cell HD.out.blk 1).trans rfl, (blk_cell BKgx.out 0).trans rfl, (blk_cell BKgx.out 1).trans rfl, (blk_cell BKgx.out 2).trans rfl⟩ (fun hHeld => ?_)
  refine pure_ (i := 0) (N := some 9) (v := ?_) (a' := ?_) #[true, false, false, false, false, false, false, false] rfl rfl (by kernel_rfl) (fun _ _ _ h => h) (Or.inl ⟨by rfl, ?_⟩) ?_ ?_
  rotate_left
  · intro w'
    go_simp
    with_reducible rfl
  rotate_left
  · simp only [Act.put, List.setIfInBounds_toArray, List.set_cons_zero, List.set_cons_succ, i64_w, i32_w]
    rfl
  refine pure_ (i := 1) (N := some 10) (v := ?_) (a' := ?_) #[true, true, false, false, false, false, false, false] rfl rfl (by kernel_rfl) (fun _ _ _ h => h) (Or.inl ⟨by rfl, ?_⟩) ?_ ?_
  rotate_left
  · intro w'
    go_simp
    with_reducible rfl
  rotate_left
  · simp only [Act.put, List.setIfInBounds_toArray, List.set_cons_zero, List.set_cons_succ, i64_w, i32_w]
    rfl
  refine pure_ (i := 2) (N := some 11) (v := ?_) (a' := ?_) #[true, true, true, false, false, false, false, false] rfl rfl (by kernel_rfl) (fun _ _ _ h => h) (Or.inl ⟨by rfl, ?_⟩) ?_ ?_
  rotate_left
  · intro w'
    go_simp
    with_reducible rfl
  rotate_left
  · simp only [Act.put, List.setIfInBounds_toArray, List.set_cons_zero, List.set_cons_succ, i64_w, i32_w]
    rfl
  refine pure_ (i := 4) (N := some 13) (v := ?_) (a' := ?_) #[true, true, true, false, true, false, false, false] rfl rfl (by kernel_rfl) (fun _ _ _ h => h) (Or.inl ⟨by rfl, ?_⟩) ?_ ?_
  rotate_left
  · intro w'
    go_simp
    with_reducible rfl
  rotate_left
  · simp only [Act.put, List.setIfInBounds_toArray, List.set_cons_zero, List.set_cons_succ, i64_w, i32_w]
    rfl
  refine take_ (i := 3) (N := some 12) (v := ?_) (a' := ?_) #[true, true, true, true, true, false, false, false] rfl rfl (by kernel_rfl) (fun _ _ _ h => h) (Or.inl ⟨by rfl, ?_⟩) hHeld ?_ ?_
  rotate_left
  · rintro w' ⟨s0, s1, s2, s3⟩
    go_simp
    with_reducible rfl
  rotate_left
  · simp only [Act.put, List.setIfInBounds_toArray, List.set_cons_zero, List.set_cons_succ, i64_w, i32_w]
    rfl
  refine take_ (i := 5) (N := some 14) (v := ?_) (a' := ?_) #[true, true, true, true, true, true, false, false] rfl rfl (by kernel_rfl) (fun _ _ _ h => h) (Or.inl ⟨by rfl, ?_⟩) hHeld ?_ ?_
  rotate_left
  · rintro w' ⟨s0, s1, s2, s3⟩
    go_simp
    with_reducible rfl
  rotate_left
  · simp only [Act.put, List.setIfInBounds_toArray, List.set_cons_zero, List.set_cons_succ, i64_w, i32_w]
    rfl
  refine last_ (i := 6) (N := some 15) #[true, true, true, true, true, true, true, false] rfl rfl (by kernel_rfl) (by decide) (fun K hK => ?_)
  have n0_ : Aside0 (Below w.heap.size w w2.drew) := ⟨(below_step HB.out (below_drew1 (Below.refl w2.heap.size w2)))⟩
  have n1_ : Aside0 (DAt w2.drew F db vl (.slice B sn.length bc) L sn) := ⟨(DAt.below HD.out (below_drew1 (Below.refl w2.heap.size w2)))⟩
  have n2_ : Aside0 (w2.drew.heap[gx]? = some (.cells #[(.int .i64 x.1.f0), (.int .i64 x.1.f1), (.int .i64 x.1.f2), (.int .i64 x.2)] 69 (0, 0))) := ⟨(blk_below BKgx.out (below_drew1 (Below.refl w2.heap.size w2)))⟩
  have n3_ : Aside0 (w2.drew.heap[gy]? = some (.cells #[(.int .i64 y.1.f0), (.int .i64 y.1.f1), (.int .i64 y.1.f2), (.int .i64 y.2)] 69 (0, 0))) := ⟨(blk_below BKgy.out (below_drew1 (Below.refl w2.heap.size w2)))⟩
  clear HB HD BKgx BKgy
  have HB := n0_
  have HD := n1_
  have BKgx := n2_
  have BKgy := n3_
  clear n0_ n1_ n2_ n3_
  refine goes_ Try.func56 (by kernel_rfl) rfl #[.slice B sn.length bc, .agg #[.int .i64 x.1.f0, .int .i64 x.1.f1, .int .i64 x.1.f2]] (by rfl) rfl rfl (by simp only [List.map_toArray, List.map_cons, List.map_nil]; rfl) ?_
  with_reducible refine (whittleref14_Sees.calls kx B bc sn x.1.f0 x.1.f1 x.1.f2 sx w2.drew (Kd.R_reads' HD.out.seen).2.2 (Kd.R_reads' HD.out.seen).2.1 HKX.out).mono ?_
  rintro e w3 ⟨rfl, hb⟩
  refine ⟨_, rfl, ?_⟩
  have n0_ : Aside0 (Below w.heap.size w w3) := ⟨(below_step HB.out hb)⟩
  have n1_ : Aside0 (DAt w3 F db vl (.slice B sn.length bc) L sn) := ⟨(DAt.below HD.out hb)⟩
  have n2_ : Aside0 (w3.heap[gx]? = some (.cells #[(.int .i64 x.1.f0), (.int .i64 x.1.f1), (.int .i64 x.1.f2), (.int .i64 x.2)] 69 (0, 0))) := ⟨(blk_below BKgx.out hb)⟩
  have n3_ : Aside0 (w3.heap[gy]? = some (.cells #[(.int .i64 y.1.f0), (.int .i64 y.1.f1), (.int .i64 y.1.f2), (.int .i64 y.2)] 69 (0, 0))) := ⟨(blk_below BKgy.out hb)⟩
  clear HB HD BKgx BKgy
  have HB := n0_
  have HD := n1_
  have BKgx := n2_
  have BKgy := n3_
  clear n0_ n1_ n2_ n3_
  clear hb
  refine hK.out _ _ ?_
  clear hK K
  refine norm_ (a' := ?_) ?_ ?_
  rotate_left
  · show Act.put _ (some 15) _ = _
    simp only [Act.put, List.setIfInBounds_toArray, List.set_cons_zero, List.set_cons_succ, i64_w, i32_w]
    rfl
  refine pure_ (i := 7) (N := some 7) (v := ?_) (a' := ?_) #[true, true, true, true, true, true, true, true] rfl rfl (by kernel_rfl) (fun _ _ _ h => h) (Or.inl ⟨by rfl, ?_⟩) ?_ ?_
  rotate_left
  · intro w'
    go_simp
    with_reducible rfl
  rotate_left
  · simp only [Act.put, List.setIfInBounds_toArray, List.set_cons_zero, List.set_cons_succ, i64_w, i32_w]
    rfl
  refine done_ (by kernel_rfl) ?_
  go_wp2
  refine start_ (n := 8) (S := fun w' => w'.cell? ⟨db, 1, none⟩ = some (.slice B sn.length bc) ∧ w'.cell? ⟨gy, 0, none⟩ = some (.int .i64 y.1.f0) ∧ w'.cell? ⟨gy, 1, none⟩ = some (.int .i64 y.1.f1) ∧ w'.cell? ⟨gy, 2, none⟩ = some (.int .i64 y.1.f2)) (ds := [6]) #[false, false, false, false, false, false, false, false] (by kernel_rfl) rfl rfl ⟨(blk_cell HD.out.blk 1).trans rfl, (blk_cell BKgy.out 0).trans rfl, (blk_cell BKgy.out 1).trans rfl, (blk_cell BKgy.out 2).trans rfl⟩ (fun hHeld => ?_)
  refine pure_ (i := 0) (N := some 16) (v := ?_) (a' := ?_) #[true, false, false, false, false, false, false, false] rfl rfl (by kernel_rfl) (fun _ _ _ h => h) (Or.inl ⟨by rfl, ?_⟩) ?_ ?_
  rotate_left
  · intro w'
    go_simp
    with_reducible rfl
  rotate_left
  · simp only [Act.put, List.setIfInBounds_toArray, List.set_cons_zero, List.set_cons_succ, i64_w, i32_w]
    rfl
  refine pure_ (i := 1) (N := some 17) (v := ?_) (a' := ?_) #[true, true, false, false, false, false, false, false] rfl rfl (by kernel_rfl) (fun _ _ _ h => h) (Or.inl ⟨by rfl, ?_⟩) ?_ ?_
  rotate_left
  · intro w'
    go_simp
    with_reducible rfl
  rotate_left
  · simp only [Act.put, List.setIfInBounds_toArray, List.set_cons_zero, List.set_cons_succ, i64_w, i32_w]
    rfl
  refine pure_ (i := 2) (N := some 18) (v := ?_) (a' := ?_) #[true, true, true, false, false, false, false, false] rfl rfl (by kernel_rfl) (fun _ _ _ h => h) (Or.inl ⟨by rfl, ?_⟩) ?_ ?_
  rotate_left
  · intro w'
    go_simp
    with_reducible rfl
  rotate_left
  · simp only [Act.put, List.setIfInBounds_toArray, List.set_cons_zero, List.set_cons_succ, i64_w, i32_w]
    rfl
  refine pure_ (i := 4) (N := some 20) (v := ?_) (a' := ?_) #[true, true, true, false, true, false, false, false] rfl rfl (by kernel_rfl) (fun _ _ _ h => h) (Or.inl ⟨by rfl, ?_⟩) ?_ ?_
  rotate_left
  · intro w'
    go_simp
    with_reducible rfl
  rotate_left
  · simp only [Act.put, List.setIfInBounds_toArray, List.set_cons_zero, List.set_cons_succ, i64_w, i32_w]
    rfl
  refine take_ (i := 3) (N := some 19) (v := ?_) (a' := ?_) #[true, true, true, true, true, false, false, false] rfl rfl (by kernel_rfl) (fun _ _ _ h => h) (Or.inl ⟨by rfl, ?_⟩) hHeld ?_ ?_
  rotate_left
  · rintro w' ⟨s0, s1, s2, s3⟩
    go_simp
    with_reducible rfl
  rotate_left
  · simp only [Act.put, List.setIfInBounds_toArray, List.set_cons_zero, List.set_cons_succ, i64_w, i32_w]
    rfl
  refine take_ (i := 5) (N := some 21) (v := ?_) (a' := ?_) #[true, true, true, true, true, true, false, false] rfl rfl (by kernel_rfl) (fun _ _ _ h => h) (Or.inl ⟨by rfl, ?_⟩) hHeld ?_ ?_
  rotate_left
  · rintro w' ⟨s0, s1, s2, s3⟩
    go_simp
    with_reducible rfl
  rotate_left
  · simp only [Act.put, List.setIfInBounds_toArray, List.set_cons_zero, List.set_cons_succ, i64_w, i32_w]
    rfl
  refine last_ (i := 6) (N := some 22) #[true, true, true, true, true, true, true, false] rfl rfl (by kernel_rfl) (by decide) (fun K hK => ?_)
  have n0_ : Aside0 (Below w.heap.size w w3.drew) := ⟨(below_step HB.out (below_drew1 (Below.refl w3.heap.size w3)))⟩
  have n1_ : Aside0 (DAt w3.drew F db vl (.slice B sn.length bc) L sn) := ⟨(DAt.below HD.out (below_drew1 (Below.refl w3.heap.size w3)))⟩
  have n2_ : Aside0 (w3.drew.heap[gx]? = some (.cells #[(.int .i64 x.1.f0), (.int .i64 x.1.f1), (.int .i64 x.1.f2), (.int .i64 x.2)] 69 (0, 0))) := ⟨(blk_below BKgx.out (below_drew1 (Below.refl w3.heap.size w3)))⟩
  have n3_ : Aside0 (w3.drew.heap[gy]? = some (.cells #[(.int .i64 y.1.f0), (.int .i64 y.1.f1), (.int .i64 y.1.f2), (.int .i64 y.2)] 69 (0, 0))) := ⟨(blk_below BKgy.out (below_drew1 (Below.refl w3.heap.size w3)))⟩
  clear HB HD BKgx BKgy
  have HB := n0_
  have HD := n1_
  have BKgx := n2_
  have BKgy := n3_
  clear n0_ n1_ n2_ n3_
  refine goes_ Try.func56 (by kernel_rfl) rfl #[.slice B sn.length bc, .agg #[.int .i64 y.1.f0, .int .i64 y.1.f1, .int .i64 y.1.f2]] (by rfl) rfl rfl (by simp only [List.map_toArray, List.map_cons, List.map_nil]; rfl) ?_
  with_reducible refine (whittleref14_Sees.calls ky B bc sn y.1.f0 y.1.f1 y.1.f2 sy w3.drew (Kd.R_reads' HD.out.seen).2.2 (Kd.R_reads' HD.out.seen).2.1 HKY.out).mono ?_
  rintro e w4 ⟨rfl, hb⟩
  refine ⟨_, rfl, ?_⟩
  have n0_ : Aside0 (Below w.heap.size w w4) := ⟨(below_step HB.out hb)⟩
  have n1_ : Aside0 (DAt w4 F db vl (.slice B sn.length bc) L sn) := ⟨(DAt.below HD.out hb)⟩
  have n2_ : Aside0 (w4.heap[gx]? = some (.cells #[(.int .i64 x.1.f0), (.int .i64 x.1.f1), (.int .i64 x.1.f2), (.int .i64 x.2)] 69 (0, 0))) := ⟨(blk_below BKgx.out hb)⟩
  have n3_ : Aside0 (w4.heap[gy]? = some (.cells #[(.int .i64 y.1.f0), (.int .i64 y.1.f1), (.int .i64 y.1.f2), (.int .i64 y.2)] 69 (0, 0))) := ⟨(blk_below BKgy.out hb)⟩
  clear HB HD BKgx BKgy
  have HB := n0_
  have HD := n1_
  have BKgx := n2_
  have BKgy := n3_
  clear n0_ n1_ n2_ n3_
  clear hb
  refine hK.out _ _ ?_
  clear hK K
  refine norm_ (a' := ?_) ?_ ?_
  rotate_left
  · show Act.put _ (some 22) _ = _
    simp only [Act.put, List.setIfInBounds_toArray, List.set_cons_zero, List.set_cons_succ, i64_w, i32_w]
    rfl
  refine pure_ (i := 7) (N := some 8) (v := ?_) (a' := ?_) #[true, true, true, true, true, true, true, true] rfl rfl (by kernel_rfl) (fun _ _ _ h => h) (Or.inl ⟨by rfl, ?_⟩) ?_ ?_
  rotate_left
  · intro w'
    go_simp
    with_reducible rfl
  rotate_left
  · simp only [Act.put, List.setIfInBounds_toArray, List.set_cons_zero, List.set_cons_succ, i64_w, i32_w]
    rfl
  refine done_ (by kernel_rfl) ?_
  have hx0 : w4.cell? ⟨gx, 0, none⟩ = some (.int .i64 x.1.f0) := (blk_cell BKgx.out 0).trans rfl
  have hx1 : w4.cell? ⟨gx, 1, none⟩ = some (.int .i64 x.1.f1) := (blk_cell BKgx.out 1).trans rfl
  have hx2 : w4.cell? ⟨gx, 2, none⟩ = some (.int .i64 x.1.f2) := (blk_cell BKgx.out 2).trans rfl
  have hx3 : w4.cell? ⟨gx, 3, none⟩ = some (.int .i64 x.2) := (blk_cell BKgx.out 3).trans rfl
  have hy0 : w4.cell? ⟨gy, 0, none⟩ = some (.int .i64 y.1.f0) := (blk_cell BKgy.out 0).trans rfl
  have hy1 : w4.cell? ⟨gy, 1, none⟩ = some (.int .i64 y.1.f1) := (blk_cell BKgy.out 1).trans rfl
  have hy2 : w4.cell? ⟨gy, 2, none⟩ = some (.int .i64 y.1.f2) := (blk_cell BKgy.out 2).trans rfl
  have hy3 : w4.cell? ⟨gy, 3, none⟩ = some (.int .i64 y.2) := (blk_cell BKgy.out 3).trans rfl
  have hans : (sx = true ∧ sy = false) ∨ (sx = false ∧ sy = true) ∨ sx = sy := by cases sx <;> cases sy <;> simp
  rcases hans with ⟨rfl, rfl⟩ | ⟨rfl, rfl⟩ | rfl
  · go_wp2
    go_ret
    exact ⟨by rw [HE.out]; simp [ltE], HB.out⟩
  · go_wp2
    go_ret
    exact ⟨by rw [HE.out]; simp [ltE], HB.out⟩
  · by_cases hm : x.2 = y.2
    · have hmb : (x.2 == y.2) = true := by rw [hm]; simp
      obtain ⟨r, hr⟩ : ∃ r, ltC x.1 y.1 = r := ⟨_, rfl⟩
      have HBF : Aside0 (whittleref3_Before.f x.1.f0 x.1.f1 x.1.f2 y.1.f0 y.1.f1 y.1.f2 = some r) := ⟨by rw [refBefore_f, hr]⟩
      have HAN : Aside0 (ltE (entW sn x) (entW sn y) = r) := ⟨by rw [HE.out, ← hr]; simp [ltE, hm]⟩
      clear hr hm
      go_wp2_with (go_at_call 57; (with_reducible refine (whittleref3_Before.calls x.1.f0 x.1.f1 x.1.f2 y.1.f0 y.1.f1 y.1.f2 r w4 HBF.out).mono ?_); rintro e w5 ⟨rfl, hb⟩; have HB5 := Aside0.mk (below_step HB.out hb); clear hb)
      go_ret
      exact ⟨by rw [HAN.out]; rfl, HB5.out⟩
    · have hmb : (x.2 == y.2) = false := by rw [beq_eq_false_iff_ne]; exact hm
      obtain ⟨r, hr⟩ : ∃ r, decide (x.2 < y.2) = r := ⟨_, rfl⟩
      have HAN : Aside0 (ltE (entW sn x) (entW sn y) = r) := ⟨by rw [HE.out, ← hr]; simp [ltE, hm]⟩
      clear hm
      go_wp2
      go_ret
      exact ⟨by rw [HAN.out]; rfl, HB.out⟩
end Go.Proofs.Ytgkbcgmcpbbneaa.Q

/- The walks of the document's queue: Level, First. -/
namespace Go.Proofs.Ytgkbcgmcpbbneaa.Q
open Go Go.RowKit Go.Maps Go.Proofs.YtgkbcgmcpbbneaaW.PrintWords Go.Proofs.YtgkbcgmcpbbneaaW.PrintLast Go.Proofs.YtgkbcgmcpbbneaaW.PrintMore
set_option maxRecDepth 100000
set_option linter.unusedVariables false
set_option linter.unusedSimpArgs false
attribute [local go_sem high] eqA30
theorem pos_some {L : List Wt} (hu : Uniq L) {c : S30} {n : Int} (h : look L c = some n) : ∃ i, i < L.length ∧ L.getD i zWt = (c, n) ∧ posL L c = (i : Int) := by
  obtain ⟨i, hi, e⟩ := List.getElem_of_mem (look_some h)
  refine ⟨i, hi, by rw [rdW L i hi, e], pos_at hi (by rw [e]) (fun j hj he => ?_)⟩
  have := List.pairwise_iff_getElem.1 hu j i (by rw [List.length_map]; omega) (by rw [List.length_map]; exact hi) hj
  rw [List.getElem_map, List.getElem_map, he, e] at this
  exact this rfl
theorem pos_no {L : List Wt} {c : S30} (h : look L c = none) : posL L c = -1 := by
  unfold posL
  rw [h]
  rfl

set_option maxHeartbeats 8000000 in
theorem dlevel_calls (w : World) (F : Nat → Prop) (db : Nat) (vl va : Value) (L : List Wt) (sn : List S46) (hD : DAt w F db vl va L sn) (hu : Uniq L) (c : S30) (hl : L.length ≤ 1000000) : Calls Try.prog 34 #[.pointer (some ⟨db, 0, none⟩), .agg #[.int .i64 c.f0, .int .i64 c.f1, .int .i64 c.f2]] w fun e w' => e = .returned (.tuple #[.int .i64 ((look L c).getD 0), .bool (look L c).isSome]) ∧ Below w.heap.size w w' := by
  have hu30 := Try.underlying30
  have hu38 := Try.underlying38
  have hu41 := Try.underlying41
  have hu69 := Try.underlying69
  have HLL := Aside0.mk hl
  have HU := Aside0.mk hu
  clear hl hu
  have HD := Aside0.mk hD
  have HB : Aside0 (Below w.heap.size w w) := ⟨Below.refl _ _⟩
  clear hD
  cases hlk : look L c with
  | none =>
    have HPN : Aside0 (posL L c = -1) := ⟨pos_no hlk⟩
    clear hlk
    go_enter Try.func34, Try.ntmps34
    go_wp2_with (first | ((with_reducible refine gate_dst (N := 3) rfl ?_); refine box_event ?hg (N := 3) ?hd (cs := #[(.int .i64 c.f0), (.int .i64 c.f1), (.int .i64 c.f2)]) (t := 30) ?hr ?_; (case hd => rfl); (case hg => rfl); (case hr => first | (go_simp; done) | (go_simp; rfl)); intro gc hg w1 hbox hb; have GEgc : Aside0 (w.heap.size ≤ gc) := ⟨by rw [hg]; exact Nat.le_refl _⟩; have n0_ : Aside0 (Below w.heap.size w w1) := ⟨(below_step HB.out hb)⟩; have n1_ : Aside0 (DAt w1 F db vl va L sn) := ⟨(DAt.below HD.out hb)⟩; clear HB HD; have HB := n0_; have HD := n1_; clear n0_ n1_; have BKgc : Aside0 (w1.heap[gc]? = some (.cells #[(.int .i64 c.f0), (.int .i64 c.f1), (.int .i64 c.f2)] 30 (0, 0))) := ⟨hbox⟩; clear hb hbox hg; have hzBKgc_0 : w1.cell? ⟨gc, 0, none⟩ = some ((.int .i64 c.f0)) := (blk_cell BKgc.out 0).trans rfl; have hfBKgc_0 := blk_frozen BKgc.out 0; have hzBKgc_1 : w1.cell? ⟨gc, 1, none⟩ = some ((.int .i64 c.f1)) := (blk_cell BKgc.out 1).trans rfl; have hfBKgc_1 := blk_frozen BKgc.out 1; have hzBKgc_2 : w1.cell? ⟨gc, 2, none⟩ = some ((.int .i64 c.f2)) := (blk_cell BKgc.out 2).trans rfl; have hfBKgc_2 := blk_frozen BKgc.out 2) | (go_at_call 31; (with_reducible refine (find_calls _ F db vl va L sn HD.out c HLL.out).mono ?_); rintro e w2 ⟨rfl, hb⟩; (try clear hzBKgc_0); (try clear hfBKgc_0); (try clear hzBKgc_1); (try clear hfBKgc_1); (try clear hzBKgc_2); (try clear hfBKgc_2); have n0_ : Aside0 (Below w.heap.size w w2) := ⟨(below_step HB.out hb)⟩; have n1_ : Aside0 (DAt w2 F db vl va L sn) := ⟨(DAt.below HD.out hb)⟩; have n2_ : Aside0 (w2.heap[gc]? = some (.cells #[(.int .i64 c.f0), (.int .i64 c.f1), (.int .i64 c.f2)] 30 (0, 0))) := ⟨(blk_below BKgc.out hb)⟩; clear HB HD BKgc; have HB := n0_; have HD := n1_; have BKgc := n2_; clear n0_ n1_ n2_; clear hb; rw [HPN.out]))
    go_ret2
    exact ⟨rfl, HB.out⟩
  | some n =>
    obtain ⟨i, hi, hg, hpos⟩ := pos_some HU.out hlk
    have HPN := Aside0.mk hpos
    have HI := Aside0.mk hi
    have HG := Aside0.mk hg
    clear hlk hi hg hpos
    obtain ⟨A, cap, ev⟩ := Kd.R_slice HD.out.list
    subst ev
    obtain ⟨g, cap2, hv, _, _, _⟩ := Kd.R_form HD.out.list (by have := HI.out; omega)
    injection hv with hA _ hc2
    subst hA
    subst hc2
    go_enter Try.func34, Try.ntmps34
    go_wp2_with (first | ((with_reducible refine gate_dst (N := 3) rfl ?_); refine box_event ?hg (N := 3) ?hd (cs := #[(.int .i64 c.f0), (.int .i64 c.f1), (.int .i64 c.f2)]) (t := 30) ?hr ?_; (case hd => rfl); (case hg => rfl); (case hr => first | (go_simp; done) | (go_simp; rfl)); intro gc hg w1 hbox hb; have GEgc : Aside0 (w.heap.size ≤ gc) := ⟨by rw [hg]; exact Nat.le_refl _⟩; have n0_ : Aside0 (Below w.heap.size w w1) := ⟨(below_step HB.out hb)⟩; have n1_ : Aside0 (DAt w1 F db (.slice (some ⟨g, 0, none⟩) L.length cap) va L sn) := ⟨(DAt.below HD.out hb)⟩; clear HB HD; have HB := n0_; have HD := n1_; clear n0_ n1_; have BKgc : Aside0 (w1.heap[gc]? = some (.cells #[(.int .i64 c.f0), (.int .i64 c.f1), (.int .i64 c.f2)] 30 (0, 0))) := ⟨hbox⟩; clear hb hbox hg; have hzBKgc_0 : w1.cell? ⟨gc, 0, none⟩ = some ((.int .i64 c.f0)) := (blk_cell BKgc.out 0).trans rfl; have hfBKgc_0 := blk_frozen BKgc.out 0; have hzBKgc_1 : w1.cell? ⟨gc, 1, none⟩ = some ((.int .i64 c.f1)) := (blk_cell BKgc.out 1).trans rfl; have hfBKgc_1 := blk_frozen BKgc.out 1; have hzBKgc_2 : w1.cell? ⟨gc, 2, none⟩ = some ((.int .i64 c.f2)) := (blk_cell BKgc.out 2).trans rfl; have hfBKgc_2 := blk_frozen BKgc.out 2) | (go_at_call 31; (with_reducible refine (find_calls _ F db _ va L sn HD.out c HLL.out).mono ?_); rintro e w2 ⟨rfl, hb⟩; (try clear hzBKgc_0); (try clear hfBKgc_0); (try clear hzBKgc_1); (try clear hfBKgc_1); (try clear hzBKgc_2); (try clear hfBKgc_2); have n0_ : Aside0 (Below w.heap.size w w2) := ⟨(below_step HB.out hb)⟩; have n1_ : Aside0 (DAt w2 F db (.slice (some ⟨g, 0, none⟩) L.length cap) va L sn) := ⟨(DAt.below HD.out hb)⟩; have n2_ : Aside0 (w2.heap[gc]? = some (.cells #[(.int .i64 c.f0), (.int .i64 c.f1), (.int .i64 c.f2)] 30 (0, 0))) := ⟨(blk_below BKgc.out hb)⟩; clear HB HD BKgc; have HB := n0_; have HD := n1_; have BKgc := n2_; clear n0_ n1_ n2_; clear hb; rw [HPN.out]; obtain ⟨he, _⟩ := elW HD.out.list (i : Int) (by omega) (by have := HI.out; omega); rw [Int.toNat_natCast, HG.out] at he; have hx3 : w2.cell? ⟨g, i * 4 + 3, none⟩ = some (.int .i64 n) := he 3 _ rfl; clear he; have hd0 : w2.cell? ⟨db, 0, none⟩ = some (.slice (some ⟨g, 0, none⟩) L.length cap) := (blk_cell HD.out.blk 0).trans rfl; have i1 : (i : Int) < (L.length : Int) := (by have := HI.out; omega); have i0 : (0 : Int) ≤ (i : Int) := (by omega); have i1n := HI.out; have i1b := decide_eq_true i1; have i0b := decide_eq_true i0; have i1t := eq_true i1; have i0t := eq_true i0; have i1nt := eq_true i1n; have i1nb := decide_eq_true i1n; have inn : ((i : Int) < 0) = False := eq_false (by omega); clear i1 i0 i1n))
    go_ret2
    exact ⟨rfl, HB.out⟩
end Go.Proofs.Ytgkbcgmcpbbneaa.Q
