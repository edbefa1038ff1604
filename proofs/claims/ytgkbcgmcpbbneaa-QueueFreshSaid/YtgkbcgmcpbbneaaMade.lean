/- The walk of made. -/
import Derived.Test.YtgkbcgmcpbbneaaAble
namespace Go.Proofs.Ytgkbcgmcpbbneaa.Q
open Go Go.RowKit Go.Maps Go.Proofs.YtgkbcgmcpbbneaaW.PrintWords Go.Proofs.YtgkbcgmcpbbneaaW.PrintLast Go.Proofs.YtgkbcgmcpbbneaaW.PrintMore
set_option maxRecDepth 100000
set_option linter.unusedVariables false
set_option linter.unusedSimpArgs false

set_option maxHeartbeats 8000000 in
theorem made_calls (w : World) (A : Option Addr) (c : Nat) (xs : List S43) (hC : Kd.C k43 w A xs.length xs) (hf : Few xs) (hw : ∀ a ∈ xs, WfA a) :
    Calls Try.prog 10 #[.slice A xs.length c] w fun e w' => ∃ q, e = .returned (.pointer (some ⟨q, 0, none⟩)) ∧ QS w' (fun k => w.heap.size ≤ k) q (runP xs).1 (runP xs).2 400 ∧ Below w.heap.size w w' := by
  have hu30 := Try.underlying30
  have hu43 := Try.underlying43
  have hu22 := Try.underlying22
  have hu39 := Try.underlying39
  have HC := Aside0.mk hC
  have HF := Aside0.mk hf
  have HW := Aside0.mk hw
  clear hC hf hw
  go_enter Try.func10, Try.ntmps10
  go_wp2_with (go_at_call 16; (with_reducible refine (QS.new _).mono ?_); rintro e w1 ⟨q, rfl, hq, hb⟩; have HQ := Aside0.mk hq; have HB := Aside0.mk hb; clear hq hb)
  go_loopg [4] (xs.length + 1) (fun gg v4 wr => ∃ (x4 : Int) (i : Nat), v4 = .int .i64 x4 ∧ xs.length - i + 1 ≤ gg ∧ Aside0 (x4 = (i : Int) ∧ i ≤ xs.length) ∧ Aside0 (QS wr (fun k => w.heap.size ≤ k) q (runP (xs.take i)).1 (runP (xs.take i)).2 i) ∧ Aside0 (Below w.heap.size w wr))
  case atStart => exact ⟨0, 0, rfl, by omega, ⟨rfl, Nat.zero_le _⟩, HQ, HB⟩
  case round =>
    clear HQ HB
    obtain ⟨x4, i, rfl, hgg, HI, HQ, HB⟩ := hrel
    have HGG := Aside0.mk hgg
    clear hgg
    by_cases c2 : x4 < (xs.length : Int)
    · have c2b : decide (x4 < (xs.length : Int)) = true := decide_eq_true c2
      have c3b : decide (0 ≤ x4) = true := decide_eq_true (by have := HI.out.1; omega)
      have hil : i < xs.length := by have := HI.out.1; omega
      obtain ⟨ad, A5, c5, hA, hx0, hx1, hx2, hx3, hx4, hx5, hl5, hi5⟩ := at_T43 (Kd.C_below HC.out HB.out) x4 (of_decide_eq_true c3b) c2
      cases hA
      have hrd : rd_T43 xs x4 = xs[i] := by rw [HI.out.1]; exact rd43 xs i hil
      have HST : Aside0 (runP (xs.take (i + 1)) = stepP (runP (xs.take i)) (rd_T43 xs x4)) := ⟨by rw [hrd]; exact runP_take xs i hil⟩
      have HWA : Aside0 (WfA (rd_T43 xs x4) ∧ (rd_T43 xs x4).f3.length ≤ 400) := ⟨by rw [hrd]; exact ⟨HW.out _ (List.getElem_mem hil), HF.out.2 _ (List.getElem_mem hil)⟩⟩
      have HPL : Aside0 ((runP (xs.take i)).1.length ≤ i ∧ (runP (xs.take i)).2.length ≤ 400 ∧ i < 400) := ⟨by have h1 := runP_len (xs.take i); rw [List.length_take] at h1; refine ⟨by omega, runP_seen (HF.out.take i), by have := HF.out.1; omega⟩⟩
      have HIL := Aside0.mk hil
      have HIB : Aside0 (i ≤ 1000000) := ⟨by have := HPL.out; omega⟩
      generalize rd_T43 xs x4 = a at hx0 hx1 hx2 hx3 hx4 hx5 hl5 hi5 HST HWA
      generalize hp : runP (xs.take i) = p at HQ HST HPL
      clear hrd hil hp
      have HWC : Aside0 (Wc a.f1) := ⟨HWA.out.1.2.1⟩
      have HWN : Aside0 (Wf a.f2) := ⟨HWA.out.1.2.2⟩
      have HND : Aside0 (w.heap.size ≤ wr.drew.heap.size) := ⟨HB.out.size⟩
      have HC5 := Aside0.mk hi5
      have hx6 : (wr.alloc (.cells #[] 46)).cell? ⟨(ad.add (x4.toNat * 6)).block, (ad.add (x4.toNat * 6)).off + 5, none⟩ = some (.slice A5 a.f3.length c5) := pw_cell_below (below_alloc (Below.refl _ _) _) hx5
      clear hi5 hl5
      have c2t := eq_true c2
      have c3t : (0 ≤ x4) = True := eq_true (of_decide_eq_true c3b)
      clear c2
      by_cases k1 : a.f0 = 1
      · have K1 := Aside0.mk k1
        have k1b : (a.f0 == 1) = true := by rw [k1]; rfl
        clear k1
        go_wp2
        refine start_ (n := 12) (S := fun w' => w'.cell? ⟨(ad.add (x4.toNat * 6)).block, (ad.add (x4.toNat * 6)).off + 1, none⟩ = some (.int .i64 a.f1.f0) ∧ w'.cell? ⟨(ad.add (x4.toNat * 6)).block, (ad.add (x4.toNat * 6)).off + 2, none⟩ = some (.int .i64 a.f1.f1) ∧ w'.cell? ⟨(ad.add (x4.toNat * 6)).block, (ad.add (x4.toNat * 6)).off + 3, none⟩ = some (.int .i64 a.f1.f2) ∧ w'.cell? ⟨(ad.add (x4.toNat * 6)).block, (ad.add (x4.toNat * 6)).off + 4, none⟩ = some (.int .i64 a.f2)) (ds := [11]) #[false, false, false, false, false, false, false, false, false, false, false, false] (by kernel_rfl) rfl rfl ⟨hx1, hx2, hx3, hx4⟩ (fun hHeld => ?_)
        refine pure_ (i := 0) (N := some 19) (v := ?_) (a' := ?_) #[true, false, false, false, false, false, false, false, false, false, false, false] rfl rfl (by kernel_rfl) (fun _ _ _ h => h) (Or.inl ⟨by rfl, ?_⟩) ?_ ?_
        rotate_left
        · intro w'
          go_simp
          with_reducible rfl
        rotate_left
        · simp only [Act.put, List.setIfInBounds_toArray, List.set_cons_zero, List.set_cons_succ, i64_w, i32_w]
          rfl
        refine pure_ (i := 1) (N := some 20) (v := ?_) (a' := ?_) #[true, true, false, false, false, false, false, false, false, false, false, false] rfl rfl (by kernel_rfl) (fun _ _ _ h => h) (Or.inl ⟨by rfl, ?_⟩) ?_ ?_
        rotate_left
        · intro w'
          go_simp
          with_reducible rfl
        rotate_left
        · simp only [Act.put, List.setIfInBounds_toArray, List.set_cons_zero, List.set_cons_succ, i64_w, i32_w]
          rfl
        refine pure_ (i := 2) (N := some 21) (v := ?_) (a' := ?_) #[true, true, true, false, false, false, false, false, false, false, false, false] rfl rfl (by kernel_rfl) (fun _ _ _ h => h) (Or.inl ⟨by rfl, ?_⟩) ?_ ?_
        rotate_left
        · intro w'
          go_simp
          with_reducible rfl
        rotate_left
        · simp only [Act.put, List.setIfInBounds_toArray, List.set_cons_zero, List.set_cons_succ, i64_w, i32_w]
          rfl
        refine pure_ (i := 3) (N := some 22) (v := ?_) (a' := ?_) #[true, true, true, true, false, false, false, false, false, false, false, false] rfl rfl (by kernel_rfl) (fun _ _ _ h => h) (Or.inl ⟨by rfl, ?_⟩) ?_ ?_
        rotate_left
        · intro w'
          go_simp
          with_reducible rfl
        rotate_left
        · simp only [Act.put, List.setIfInBounds_toArray, List.set_cons_zero, List.set_cons_succ, i64_w, i32_w]
          rfl
        refine pure_ (i := 4) (N := some 23) (v := ?_) (a' := ?_) #[true, true, true, true, true, false, false, false, false, false, false, false] rfl rfl (by kernel_rfl) (fun _ _ _ h => h) (Or.inl ⟨by rfl, ?_⟩) ?_ ?_
        rotate_left
        · intro w'
          go_simp
          with_reducible rfl
        rotate_left
        · simp only [Act.put, List.setIfInBounds_toArray, List.set_cons_zero, List.set_cons_succ, i64_w, i32_w]
          rfl
        refine pure_ (i := 6) (N := some 25) (v := ?_) (a' := ?_) #[true, true, true, true, true, false, true, false, false, false, false, false] rfl rfl (by kernel_rfl) (fun _ _ _ h => h) (Or.inl ⟨by rfl, ?_⟩) ?_ ?_
        rotate_left
        · intro w'
          go_simp
          with_reducible rfl
        rotate_left
        · simp only [Act.put, List.setIfInBounds_toArray, List.set_cons_zero, List.set_cons_succ, i64_w, i32_w]
          rfl
        refine pure_ (i := 7) (N := some 26) (v := ?_) (a' := ?_) #[true, true, true, true, true, false, true, true, false, false, false, false] rfl rfl (by kernel_rfl) (fun _ _ _ h => h) (Or.inl ⟨by rfl, ?_⟩) ?_ ?_
        rotate_left
        · intro w'
          go_simp
          with_reducible rfl
        rotate_left
        · simp only [Act.put, List.setIfInBounds_toArray, List.set_cons_zero, List.set_cons_succ, i64_w, i32_w]
          rfl
        refine pure_ (i := 8) (N := some 27) (v := ?_) (a' := ?_) #[true, true, true, true, true, false, true, true, true, false, false, false] rfl rfl (by kernel_rfl) (fun _ _ _ h => h) (Or.inl ⟨by rfl, ?_⟩) ?_ ?_
        rotate_left
        · intro w'
          go_simp
          with_reducible rfl
        rotate_left
        · simp only [Act.put, List.setIfInBounds_toArray, List.set_cons_zero, List.set_cons_succ, i64_w, i32_w]
          rfl
        refine pure_ (i := 9) (N := some 28) (v := ?_) (a' := ?_) #[true, true, true, true, true, false, true, true, true, true, false, false] rfl rfl (by kernel_rfl) (fun _ _ _ h => h) (Or.inl ⟨by rfl, ?_⟩) ?_ ?_
        rotate_left
        · intro w'
          go_simp
          with_reducible rfl
        rotate_left
        · simp only [Act.put, List.setIfInBounds_toArray, List.set_cons_zero, List.set_cons_succ, i64_w, i32_w]
          rfl
        refine take_ (i := 5) (N := some 24) (v := ?_) (a' := ?_) #[true, true, true, true, true, true, true, true, true, true, false, false] rfl rfl (by kernel_rfl) (fun _ _ _ h => h) (Or.inl ⟨by rfl, ?_⟩) hHeld ?_ ?_
        rotate_left
        · rintro w' ⟨s0, s1, s2, s3⟩
          go_simp
          with_reducible rfl
        rotate_left
        · simp only [Act.put, List.setIfInBounds_toArray, List.set_cons_zero, List.set_cons_succ, i64_w, i32_w]
          rfl
        refine take_ (i := 10) (N := some 29) (v := ?_) (a' := ?_) #[true, true, true, true, true, true, true, true, true, true, true, false] rfl rfl (by kernel_rfl) (fun _ _ _ h => h) (Or.inl ⟨by rfl, ?_⟩) hHeld ?_ ?_
        rotate_left
        · rintro w' ⟨s0, s1, s2, s3⟩
          go_simp
          with_reducible rfl
        rotate_left
        · simp only [Act.put, List.setIfInBounds_toArray, List.set_cons_zero, List.set_cons_succ, i64_w, i32_w]
          rfl
        refine last_ (i := 11) (N := some 30) #[true, true, true, true, true, true, true, true, true, true, true, true] rfl rfl (by kernel_rfl) (by decide) (fun K hK => ?_)
        refine goes_ Try.func17 (by kernel_rfl) rfl #[.pointer (some ⟨q, 0, none⟩), .agg #[.int .i64 a.f1.f0, .int .i64 a.f1.f1, .int .i64 a.f1.f2], .int .i64 a.f2] (by rfl) rfl rfl (by simp only [List.map_toArray, List.map_cons, List.map_nil]; rfl) ?_
        with_reducible refine (Fq.put (QS.drew HQ.out) HND.out a.f1 HWC.out a.f2 HWN.out (Nat.le_trans HPL.out.1 HIB.out) HIB.out (Nat.le_trans HPL.out.2.1 (by omega))).mono ?_
        rintro e w5 ⟨rfl, hq, hb⟩
        refine ⟨_, rfl, ?_⟩
        have HQ5 := Aside0.mk hq
        have HB5 := Aside0.mk hb
        clear hq hb
        refine hK.out _ _ ?_
        clear hK K
        refine norm_ (a' := ?_) ?_ ?_
        rotate_left
        · show Act.put _ (some 30) _ = _
          simp only [Act.put, List.setIfInBounds_toArray, List.set_cons_zero, List.set_cons_succ, i64_w, i32_w]
          rfl
        refine done_ (by kernel_rfl) ?_
        go_wp2
        go_roundg (xs.length - i)
        case measure => have := HGG.out; have := HIL.out; omega
        case rel =>
          have hs : runP (xs.take (i + 1)) = (putL p.1 a.f1 a.f2, p.2) := by rw [HST.out]; unfold stepP; rw [if_pos K1.out]
          have he : wrap64 (x4 + 1) = ((i + 1 : Nat) : Int) := by have := HI.out.1; have := HPL.out; rw [w64 (by omega) (by omega)]; omega
          refine ⟨wrap64 (x4 + 1), i + 1, rfl, by have := HIL.out; omega, ⟨he, HIL.out⟩, ⟨?_⟩, ⟨(below_drew1 HB.out).trans HB5.out⟩⟩
          rw [hs]
          exact HQ5.out
      · have K1 := Aside0.mk k1
        have k1b : (a.f0 == 1) = false := by rw [beq_eq_false_iff_ne]; exact k1
        clear k1
        by_cases k2 : a.f0 = 2
        · have K2 := Aside0.mk k2
          have k2b : (a.f0 == 2) = true := by rw [k2]; rfl
          clear k2
          go_wp2_with (go_at_call 13; (with_reducible refine (Fq.drop HQ.out HB.out.size a.f1 HWC.out).mono ?_); rintro e w5 ⟨rfl, hq, hb⟩; have HQ5 := Aside0.mk hq; have HB5 := Aside0.mk hb; clear hq hb)
          go_wp2
          go_roundg (xs.length - i)
          case measure => have := HGG.out; have := HIL.out; omega
          case rel =>
            have hs : runP (xs.take (i + 1)) = (dropL p.1 a.f1, p.2) := by rw [HST.out]; unfold stepP; rw [if_neg K1.out, if_pos K2.out]
            have he : wrap64 (x4 + 1) = ((i + 1 : Nat) : Int) := by have := HI.out.1; have := HPL.out; rw [w64 (by omega) (by omega)]; omega
            refine ⟨wrap64 (x4 + 1), i + 1, rfl, by have := HIL.out; omega, ⟨he, HIL.out⟩, ⟨?_⟩, ⟨HB.out.trans HB5.out⟩⟩
            rw [hs]
            exact HQ5.out.grow (Nat.le_succ _)
        · have K2 := Aside0.mk k2
          have k2b : (a.f0 == 2) = false := by rw [beq_eq_false_iff_ne]; exact k2
          clear k2
          by_cases k3 : a.f0 = 3
          · have K3 := Aside0.mk k3
            have k3b : (a.f0 == 3) = true := by rw [k3]; rfl
            clear k3
            go_wp2_with (first | (at_builtin; (refine Kd.R_append_rows k46 (Rr := k46.K wr) (w0 := wr) (W := (wr.alloc (.cells #[] 46))) 0 rfl (.tmp 43) (.tmp 48) 39 46 (.agg #[.int .i64 0, .int .i64 0, .int .i64 0, .int .i64 0, .int .i64 0]) 40 rfl Try.underlying39 info46 rfl (by decide) (by omega) (.slice (some ⟨wr.heap.size, 0, none⟩) 0 0) [] a.f3 A5 a.f3.length c5 (fun k => wr.heap.size ≤ k) (fun _ => False) rfl rfl (R_empty wr _ (Nat.le_refl _)) (Kd.C_alloc HC5.out _) ?hkm (fun _ hk => hk.elim) (fun k hk => ?hfr) ((Below.refl 0 wr).alloc (Nat.zero_le _) _) (Nat.zero_le _) (by have := HWA.out.2; simp; omega) ?_); (case hkm => intro x cs hx; obtain rfl := k46_open hx; exact k46_mkM _ _ _ x); (case hfr => exact Nat.le_trans (Nat.le_of_lt (by simp)) hk); intro v1 w5 hR hb hg hat; have hb_ : Below wr.heap.size wr w5 := (below_alloc (Below.refl _ _) _).grown hg (by simp) (fun k hk => by simp [Value.ownBlock] at hk; omega); have HR1 : Aside0 (Kd.R k46 46 w5 0 (fun k => wr.heap.size ≤ k) v1 a.f3) := ⟨hR⟩; clear hR hb hg hat; obtain ⟨B1, bc1, ev⟩ := Kd.R_slice HR1.out; subst ev; have HQ4 : Aside0 (QS w5 (fun k => w.heap.size ≤ k) q p.1 p.2 i) := ⟨QS.below HQ.out hb_⟩; have HB4 : Aside0 (Below w.heap.size w w5) := ⟨below_step HB.out hb_⟩; clear hb_) | (go_at_call 20; (with_reducible refine (Fq.see HQ4.out HB4.out.size B1 a.f3.length bc1 a.f3 (Kd.R_reads' HR1.out).2.2 (Nat.le_trans HWA.out.2 (by omega)) (Nat.le_trans HPL.out.1 (by have := HPL.out; omega))).mono ?_); rintro e w6 ⟨rfl, hq, hb⟩; have HQ5 := Aside0.mk hq; have HB5 := Aside0.mk hb; clear hq hb))
            go_wp2
            go_roundg (xs.length - i)
            case measure => have := HGG.out; have := HIL.out; omega
            case rel =>
              have hs : runP (xs.take (i + 1)) = (p.1, a.f3) := by rw [HST.out]; unfold stepP; rw [if_neg K1.out, if_neg K2.out, if_pos K3.out]
              have he : wrap64 (x4 + 1) = ((i + 1 : Nat) : Int) := by have := HI.out.1; have := HPL.out; rw [w64 (by omega) (by omega)]; omega
              refine ⟨wrap64 (x4 + 1), i + 1, rfl, by have := HIL.out; omega, ⟨he, HIL.out⟩, ⟨?_⟩, ⟨HB4.out.trans HB5.out⟩⟩
              rw [hs]
              exact HQ5.out.grow (Nat.le_trans HPL.out.1 (Nat.le_succ _))
          · have K3 := Aside0.mk k3
            have k3b : (a.f0 == 3) = false := by rw [beq_eq_false_iff_ne]; exact k3
            clear k3
            go_wp2
            go_roundg (xs.length - i)
            case measure => have := HGG.out; have := HIL.out; omega
            case rel =>
              have hs : runP (xs.take (i + 1)) = p := by rw [HST.out]; unfold stepP; rw [if_neg K1.out, if_neg K2.out, if_neg K3.out]
              have he : wrap64 (x4 + 1) = ((i + 1 : Nat) : Int) := by have := HI.out.1; have := HPL.out; rw [w64 (by omega) (by omega)]; omega
              refine ⟨wrap64 (x4 + 1), i + 1, rfl, by have := HIL.out; omega, ⟨he, HIL.out⟩, ⟨?_⟩, ⟨HB.out⟩⟩
              rw [hs]
              exact HQ.out.grow (Nat.le_succ _)
    · have c2b : decide (x4 < (xs.length : Int)) = false := decide_eq_false c2
      clear c2
      go_wp2
      go_ret
      have hi : i = xs.length := by have := HI.out; have := of_decide_eq_false c2b; omega
      have hq := HQ.out
      rw [hi, List.take_length] at hq
      exact ⟨q, rfl, hq.grow HF.out.1, HB.out⟩
end Go.Proofs.Ytgkbcgmcpbbneaa.Q
