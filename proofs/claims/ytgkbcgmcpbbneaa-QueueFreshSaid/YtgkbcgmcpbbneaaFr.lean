/- The walk of QueueFresh. -/
import Derived.Test.YtgkbcgmcpbbneaaPlc
import Derived.Test.YtgkbcgmcpbbneaaCrd
namespace Go.Proofs.Ytgkbcgmcpbbneaa.Q
open Go Go.RowKit Go.Maps Go.Proofs.YtgkbcgmcpbbneaaW.PrintWords Go.Proofs.YtgkbcgmcpbbneaaW.PrintLast Go.Proofs.YtgkbcgmcpbbneaaW.PrintMore
set_option maxRecDepth 100000
set_option linter.unusedVariables false
set_option linter.unusedSimpArgs false
attribute [local go_sem high] eqA30
theorem R_empty30 (w : World) (F : Nat → Prop) (hF : F w.heap.size) : Kd.R k30 30 (w.alloc (.cells #[] 30)) 0 F (.slice (some ⟨w.heap.size, 0, none⟩) 0 0) [] :=
  ⟨fun k hk => by have : w.heap.size = k := by simpa [Value.ownBlock] using hk
                  subst this; exact hF, [], ⟨rfl, .inr ⟨w.heap.size, 0, #[], rfl, Nat.zero_le _, blk_new w _, Nat.le_refl _, Nat.zero_le _, rfl, rfl⟩⟩, Reps.none _ _⟩
def fillL (l : List S30) : Nat → List S30
  | 0 => l
  | i + 1 => (fillL l i).set i ⟨wrap64 (1000 + (i : Int)), 0, 0⟩
theorem fillL_len (l : List S30) : ∀ i, (fillL l i).length = l.length
  | 0 => rfl
  | i + 1 => by rw [fillL, List.length_set]; exact fillL_len l i
theorem fillL_get (l : List S30) : ∀ (i j : Nat), j < i → i ≤ l.length → (fillL l i)[j]? = some ⟨wrap64 (1000 + (j : Int)), 0, 0⟩
  | 0, j, h, _ => absurd h (Nat.not_lt_zero _)
  | i + 1, j, h, hl => by
    rw [fillL]
    by_cases e : j = i
    · subst e
      rw [List.getElem?_set_self (by rw [fillL_len]; omega)]
    · rw [List.getElem?_set_ne (Ne.symm e)]
      exact fillL_get l i j (by omega) (by omega)
theorem rd_app {l : List S30} {x : S30} {j : Nat} (hj : j < l.length) : rd_T30 (l ++ [x]) (j : Int) = rd_T30 l (j : Int) := by
  unfold rd_T30
  rw [Int.toNat_natCast, List.getD_eq_getElem?_getD, List.getD_eq_getElem?_getD, List.getElem?_append_left hj]
theorem rd_end {l : List S30} {x : S30} : rd_T30 (l ++ [x]) (l.length : Int) = x := by
  unfold rd_T30
  rw [Int.toNat_natCast, List.getD_eq_getElem?_getD, List.getElem?_append_right (Nat.le_refl _), Nat.sub_self]
  rfl
theorem rd_fill {l : List S30} {j : Nat} (hj : j < l.length) : rd_T30 (fillL l l.length) (j : Int) = ⟨wrap64 (1000 + (j : Int)), 0, 0⟩ := by
  unfold rd_T30
  rw [Int.toNat_natCast, List.getD_eq_getElem?_getD, fillL_get l l.length j hj (Nat.le_refl _)]
  rfl
theorem one3 (a b c : Int) : ∀ q ∈ ([.int .i64 a, .int .i64 b, .int .i64 c] : List Value), q.oneCell' = true := by
  intro q hq
  rcases List.mem_cons.1 hq with rfl | hq
  · rfl
  rcases List.mem_cons.1 hq with rfl | hq
  · rfl
  rcases List.mem_cons.1 hq with rfl | hq
  · rfl
  cases hq

set_option maxHeartbeats 8000000 in
theorem fresh_contract (w : World) (A : Option Addr) (c : Nat) (xs : List S43) (hC : Kd.C k43 w A xs.length xs) (hc : xs.length ≤ c) (hh : NotHuge xs) (hw : ∀ a ∈ xs, WfA a) :
    Calls Try.prog 4 #[.slice A xs.length c] w fun e w' => e = .returned (.bool true) ∧ Below w.heap.size w w' := by
  have hu30 := Try.underlying30
  have hu27 := Try.underlying27
  have hu39 := Try.underlying39
  obtain ⟨km, bm, hmu, hfew⟩ := much_ok xs hh
  obtain ⟨p, hp⟩ : ∃ p, runP xs = p := ⟨_, rfl⟩
  have HP := Aside0.mk hp
  have HMU := Aside0.mk hmu
  have HC := Aside0.mk hC
  have HCC := Aside0.mk hc
  have HWA := Aside0.mk hw
  clear hC hc hh hw hp hmu
  cases bm with
  | true =>
    go_enter Try.func4, Try.ntmps4
    go_wp2_with (first | (go_at_call 8; (with_reducible refine (able_calls _).mono ?_); rintro e w1 ⟨rfl, hb⟩; have HB := Aside0.mk hb; clear hb) | (go_at_call 9; (with_reducible refine (whittlelaw14_much.calls km A c xs _ w1 (Kd.C_below HC.out HB.out) HCC.out HMU.out).mono ?_); rintro e w2 ⟨rfl, hd⟩; have n0_ : Aside0 (Below w.heap.size w w2) := ⟨below_step HB.out hd.below⟩; clear HB hd; have HB := n0_; clear n0_))
    go_ret
    exact ⟨rfl, HB.out⟩
  | false =>
    have HFW : Aside0 (Few xs) := ⟨hfew rfl⟩
    clear hfew
    have HPL : Aside0 (p.1.length ≤ 1000000) := ⟨by have := runP_len xs; have := HFW.out.1; rw [← HP.out]; omega⟩
    have HP4 : Aside0 (p.1.length ≤ 400) := ⟨by have := runP_len xs; have := HFW.out.1; rw [← HP.out]; omega⟩
    have HSN : Aside0 (p.2.length ≤ 1000000) := ⟨by have := runP_seen HFW.out; rw [← HP.out]; omega⟩
    have HS4 : Aside0 (p.2.length ≤ 400) := ⟨by have := runP_seen HFW.out; rw [← HP.out]; omega⟩
    have HM4 : Aside0 (400 ≤ 1000000) := ⟨by omega⟩
    obtain ⟨l, hl⟩ : ∃ l, cellsOf p.1 p.2 = l := ⟨_, rfl⟩
    have HL0 : Aside0 (l.length ≤ 400 ∧ p.1.length = l.length) := ⟨by rw [← hl, cellsOf_length]; exact ⟨HP4.out, rfl⟩⟩
    have HCL := Aside0.mk hl
    clear hl
    obtain ⟨kc, hkc⟩ := cells_same l (Nat.le_trans HL0.out.1 (by decide))
    have HKC := Aside0.mk hkc
    clear hkc
    go_enter Try.func4, Try.ntmps4
    go_wp2_with (first | (go_at_call 8; (with_reducible refine (able_calls _).mono ?_); rintro e w1 ⟨rfl, hb⟩; have HB := Aside0.mk hb; clear hb) | (go_at_call 9; (with_reducible refine (whittlelaw14_much.calls km A c xs _ w1 (Kd.C_below HC.out HB.out) HCC.out HMU.out).mono ?_); rintro e w2 ⟨rfl, hd⟩; have n0_ : Aside0 (Below w.heap.size w w2) := ⟨below_step HB.out hd.below⟩; clear HB hd; have HB := n0_; clear n0_) | (go_at_call 10; (with_reducible refine (made_calls _ A c xs (Kd.C_below HC.out HB.out) HFW.out HWA.out).mono ?_); rintro e w3 ⟨q, rfl, hq, hb⟩; have n0_ : Aside0 (Below w.heap.size w w3) := ⟨below_step HB.out hb⟩; have HQ : Aside0 (QS w3 (fun k => w.heap.size ≤ k ∧ k < w3.heap.size) q p.1 p.2 400) := ⟨by rw [← HP.out]; exact (QS.bound hq).mono (fun k hk => ⟨Nat.le_trans HB.out.size hk.1, hk.2⟩)⟩; clear HB hq hb; have HB := n0_; clear n0_; have Sw3 : Aside0 (w.heap.size ≤ w3.heap.size) := ⟨HB.out.size⟩) | (go_at_call 11; (with_reducible refine (QS.cells (w := w3) HQ.out HPL.out HSN.out).mono ?_); rintro e w4 hcp; obtain ⟨v, rfl, hR, hb⟩ := hcp; rw [HCL.out] at hR; obtain ⟨B1, bc1, ev⟩ := Kd.R_slice hR; subst ev; have n0_ : Aside0 (Below w.heap.size w w4) := ⟨(below_step HB.out hb)⟩; have n1_ : Aside0 (QS w4 (fun k => w.heap.size ≤ k ∧ k < w3.heap.size) q p.1 p.2 400) := ⟨(QS.below HQ.out hb)⟩; clear HB HQ; have HB := n0_; have HQ := n1_; clear n0_ n1_; have HLL := Aside0.mk (R30_bound hR); have Sw4 : Aside0 (w3.heap.size ≤ w4.heap.size) := ⟨hb.size⟩; clear hR hb) | (go_at_call 11; (with_reducible refine (QS.cells (w := w4) HQ.out HPL.out HSN.out).mono ?_); rintro e w5 hcp; obtain ⟨v, rfl, hR, hb⟩ := hcp; rw [HCL.out] at hR; obtain ⟨B2, bc2, ev⟩ := Kd.R_slice hR; subst ev; have n0_ : Aside0 (Below w.heap.size w w5) := ⟨(below_step HB.out hb)⟩; have n1_ : Aside0 (QS w5 (fun k => w.heap.size ≤ k ∧ k < w3.heap.size) q p.1 p.2 400) := ⟨(QS.below HQ.out hb)⟩; have n2_ : Aside0 (Kd.R k30 30 w5 0 (fun k => w3.heap.size ≤ k ∧ k < w4.heap.size) (.slice B1 l.length bc1) l) := ⟨(Kd.R_below HLL.out hb)⟩; clear HB HQ HLL; have HB := n0_; have HQ := n1_; have HLL := n2_; clear n0_ n1_ n2_; have HMM := Aside0.mk (R30_bound hR); have Sw5 : Aside0 (w4.heap.size ≤ w5.heap.size) := ⟨hb.size⟩; clear hR hb) | (go_at_call 15; (with_reducible refine (whittlelaw14_cells.calls kc B1 bc1 l B2 bc2 l true _ (Kd.R_reads' HLL.out).2.2 (Kd.R_reads' HLL.out).2.1 (Kd.R_reads' HMM.out).2.2 (Kd.R_reads' HMM.out).2.1 HKC.out).mono ?_); rintro e w6 ⟨rfl, hd⟩; have hb := hd.below; have S6_ : Aside0 (w5.heap.size ≤ w6.heap.size) := ⟨hb.size⟩; have n0_ : Aside0 (Below w.heap.size w w6) := ⟨(below_step HB.out hb)⟩; have n1_ : Aside0 (QS w6 (fun k => w.heap.size ≤ k ∧ k < w3.heap.size) q p.1 p.2 400) := ⟨(QS.below HQ.out hb)⟩; have n2_ : Aside0 (Kd.R k30 30 w6 0 (fun k => w3.heap.size ≤ k ∧ k < w4.heap.size) (.slice B1 l.length bc1) l) := ⟨(Kd.R_below HLL.out hb)⟩; have n3_ : Aside0 (Kd.R k30 30 w6 0 (fun k => w4.heap.size ≤ k ∧ k < w5.heap.size) (.slice B2 l.length bc2) l) := ⟨(Kd.R_below HMM.out hb)⟩; clear HB HQ HLL HMM; have HB := n0_; have HQ := n1_; have HLL := n2_; have HMM := n3_; clear n0_ n1_ n2_ n3_; clear hb hd; have Sw6 : Aside0 (w5.heap.size ≤ w6.heap.size) := ⟨S6_.out⟩; clear S6_) | (at_builtin; (refine Kd.R_append_rows k30 (Rr := k30.K w6) (w0 := w6) (W := (w6.alloc (.cells #[] 30))) 0 rfl (.tmp 23) (.tmp 24) 27 30 (.agg #[.int .i64 0, .int .i64 0, .int .i64 0]) 24 rfl Try.underlying27 info30 rfl (by decide) (by omega) (.slice (some ⟨w6.heap.size, 0, none⟩) 0 0) [] l B1 l.length bc1 (fun k => w6.heap.size ≤ k) (fun _ => False) rfl rfl (R_empty30 w6 _ (Nat.le_refl _)) (Kd.C_alloc (Kd.R_reads' HLL.out).2.2 _) ?hkm (fun _ hk => hk.elim) (fun k hk => ?hfr) ((Below.refl 0 w6).alloc (Nat.zero_le _) _) (Nat.zero_le _) (by have := HL0.out; simp; omega) ?_); (case hkm => intro x cs hx; obtain rfl := k30_open hx; exact k30_mkM _ _ _ x); (case hfr => exact Nat.le_trans (Nat.le_of_lt (by simp)) hk); intro v1 w7 hR hb hg hat; have hb_ : Below w6.heap.size w6 w7 := (below_alloc (Below.refl _ _) _).grown hg (by simp) (fun k hk => by simp [Value.ownBlock] at hk; omega); have HR1 : Aside0 (Kd.R k30 30 w7 0 (fun k => w6.heap.size ≤ k) v1 l) := ⟨hR⟩; clear hR hb hg hat; obtain ⟨B3, bc3, ev⟩ := Kd.R_slice HR1.out; subst ev; have n0_ : Aside0 (Below w.heap.size w w7) := ⟨(below_step HB.out hb_)⟩; have n1_ : Aside0 (QS w7 (fun k => w.heap.size ≤ k ∧ k < w3.heap.size) q p.1 p.2 400) := ⟨(QS.below HQ.out hb_)⟩; have n2_ : Aside0 (Kd.R k30 30 w7 0 (fun k => w3.heap.size ≤ k ∧ k < w4.heap.size) (.slice B1 l.length bc1) l) := ⟨(Kd.R_below HLL.out hb_)⟩; have n3_ : Aside0 (Kd.R k30 30 w7 0 (fun k => w4.heap.size ≤ k ∧ k < w5.heap.size) (.slice B2 l.length bc2) l) := ⟨(Kd.R_below HMM.out hb_)⟩; clear HB HQ HLL HMM; have HB := n0_; have HQ := n1_; have HLL := n2_; have HMM := n3_; clear n0_ n1_ n2_ n3_; have HWS := Aside0.mk (R30_bound HR1.out); have Sw7 : Aside0 (w6.heap.size ≤ w7.heap.size) := ⟨hb_.size⟩; clear hb_ HR1))
    obtain ⟨M4, hM4⟩ : ∃ M4, w7.heap.size = M4 := ⟨_, rfl⟩
    have HM : Aside0 (M4 ≤ w7.heap.size) := ⟨by rw [hM4]; exact Nat.le_refl _⟩
    rw [hM4] at HWS Sw7
    clear hM4
    generalize w6.heap.size = M3 at HWS Sw7 Sw6
    generalize w5.heap.size = M2 at HMM Sw6 Sw5
    generalize w4.heap.size = M1 at HMM HLL Sw5 Sw4
    generalize w3.heap.size = M0 at HLL HQ Sw4 Sw3
    have HN : Aside0 (w.heap.size ≤ M0 ∧ M0 ≤ M1 ∧ M1 ≤ M2 ∧ M2 ≤ M3 ∧ M3 ≤ M4) := ⟨Sw3.out, Sw4.out, Sw5.out, Sw6.out, Sw7.out⟩
    clear Sw3 Sw4 Sw5 Sw6 Sw7
    go_loopg [7] (l.length + 1) (fun gg v7 wr => ∃ (x7 : Int) (i : Nat), v7 = .int .i64 x7 ∧ l.length - i + 1 ≤ gg ∧ Aside0 (x7 = (i : Int) ∧ i ≤ l.length) ∧ Aside0 (Below w.heap.size w wr) ∧ Aside0 (QS wr (fun k => w.heap.size ≤ k ∧ k < M0) q p.1 p.2 400) ∧ Aside0 (Kd.R k30 30 wr 0 (fun k => M0 ≤ k ∧ k < M1) (.slice B1 l.length bc1) (fillL l i)) ∧ Aside0 (Kd.R k30 30 wr 0 (fun k => M1 ≤ k ∧ k < M2) (.slice B2 l.length bc2) l) ∧ Aside0 (Kd.R k30 30 wr 0 (fun k => M3 ≤ k ∧ k < M4) (.slice B3 l.length bc3) l) ∧ Aside0 (M4 ≤ wr.heap.size))
    case atStart => exact ⟨0, 0, rfl, by omega, ⟨rfl, Nat.zero_le _⟩, HB, HQ, HLL, HMM, HWS, HM⟩
    case round =>
      clear HB HQ HLL HMM HWS HM
      obtain ⟨x7, i, rfl, hgg, HI, HB, HQ, HLL, HMM, HWS, HM⟩ := hrel
      have HGG := Aside0.mk hgg
      clear hgg
      by_cases c2 : x7 < (l.length : Int)
      · have c2b : decide (x7 < (l.length : Int)) = true := decide_eq_true c2
        have c3 : 0 ≤ x7 := by have := HI.out.1; omega
        have c3b : decide (0 ≤ x7) = true := decide_eq_true c3
        have c2t := eq_true c2
        have c3t := eq_true c3
        have hil : i < l.length := by have := HI.out.1; omega
        have HIL := Aside0.mk hil
        obtain ⟨g, cap, hv, _, _, _⟩ := Kd.R_form HLL.out (by rw [fillL_len]; omega)
        injection hv with hA hln hc
        clear hln
        subst hA
        subst hc
        have HG : Aside0 (M0 ≤ g ∧ g < M1) := ⟨HLL.out.1 g rfl⟩
        obtain ⟨c30, hcl, _, hcc, _⟩ := Kd.R_elem HLL.out z30 x7 c3 c2
        have HCLN := Aside0.mk hcl
        have HCC := Aside0.mk hcc
        have HX0 := Aside0.mk c3
        have HX1 := Aside0.mk c2
        clear hcl hcc c2 c3 hil
        go_wp2_with ((with_reducible refine gate_ (.store 30 (.tmp 37) (.tmp 36)) rfl ?_); refine Kd.R_store k30 (w0 := wr) (W := wr) (g := g) (n := l.length) (cap := bc1) 0 rfl rfl 30 (.tmp 37) (.tmp 36) rfl 30 x7 0 (fillL l i) ⟨(wrap64 (1000 + x7)), 0, 0⟩ (.agg #[.int .i64 (wrap64 (1000 + x7)), .int .i64 0, .int .i64 0]) [.int .i64 (wrap64 (1000 + x7)), .int .i64 0, .int .i64 0] c30 (fun k => M0 ≤ k ∧ k < M1) (fun _ => False) rfl ?hoff rfl rfl ?ht (one3 _ _ _) HLL.out HX0.out HX1.out HCLN.out HCC.out (by exact Nat.le_refl 3) ?hM (fun _ h => h.elim) (Below.refl 0 wr) ?_; (case hoff => first | rfl | (show _ = x7.toNat * 3 + 0; omega)); (case ht => kernel_rfl); (case hM => have hd : c30.drop 3 = [] := List.drop_eq_nil_of_le (by rw [HCLN.out]; exact Nat.le_refl 3); show k30.M wr 0 _ _ (c30.take 0 ++ [.int .i64 (wrap64 (1000 + x7)), .int .i64 0, .int .i64 0] ++ c30.drop 3); rw [hd]; exact k30_mkM _ _ _ ⟨(wrap64 (1000 + x7)), 0, 0⟩); intro w8 hR hb hg; have hk : Kp wr w8 (fun k => M0 ≤ k ∧ k < M1) := Kp.of_grown hg (fun k e => by cases e; exact HG.out); have HL8 := Aside0.mk hR; have n0_ : Aside0 (Below w.heap.size w w8) := ⟨(HB.out.trans (hk.below HB.out.size (fun k h => by have := HN.out; have := HM.out; omega)))⟩; have n1_ : Aside0 (QS w8 (fun k => w.heap.size ≤ k ∧ k < M0) q p.1 p.2 400) := ⟨(hk.qs HQ.out (fun k h1 h2 => by have := HN.out; have := HM.out; omega))⟩; have n2_ : Aside0 (Kd.R k30 30 w8 0 (fun k => M1 ≤ k ∧ k < M2) (.slice B2 l.length bc2) l) := ⟨(hk.R HMM.out (fun k h1 h2 => by have := HN.out; have := HM.out; omega))⟩; have n3_ : Aside0 (Kd.R k30 30 w8 0 (fun k => M3 ≤ k ∧ k < M4) (.slice B3 l.length bc3) l) := ⟨(hk.R HWS.out (fun k h1 h2 => by have := HN.out; have := HM.out; omega))⟩; have n4_ : Aside0 (M4 ≤ w8.heap.size) := ⟨(Nat.le_trans HM.out hk.size)⟩; clear HB HQ HMM HWS HM; have HB := n0_; have HQ := n1_; have HMM := n2_; have HWS := n3_; have HM := n4_; clear n0_ n1_ n2_ n3_ n4_; clear hR hb hg hk)
        go_roundg (l.length - i)
        case measure => have := HGG.out; have := HIL.out; omega
        case rel =>
          have he : wrap64 (x7 + 1) = ((i + 1 : Nat) : Int) := by have := HI.out.1; have := HL0.out; have := HIL.out; rw [w64 (by omega) (by omega)]; omega
          refine ⟨wrap64 (x7 + 1), i + 1, rfl, by have := HIL.out; omega, ⟨he, HIL.out⟩, HB, HQ, ⟨?_⟩, HMM, HWS, HM⟩
          have h8 := HL8.out
          rw [HI.out.1, Int.toNat_natCast] at h8
          exact h8
      · have c2b : decide (x7 < (l.length : Int)) = false := decide_eq_false c2
        obtain rfl : i = l.length := by have := HI.out; omega
        clear c2
        go_wp2_with (first | (go_at_call 15; (with_reducible refine (whittlelaw14_cells.calls kc B2 bc2 l B3 bc3 l true _ (Kd.R_reads' HMM.out).2.2 (Kd.R_reads' HMM.out).2.1 (Kd.R_reads' HWS.out).2.2 (Kd.R_reads' HWS.out).2.1 HKC.out).mono ?_); rintro e w8 ⟨rfl, hd⟩; have hb := hd.below; have n0_ : Aside0 (Below w.heap.size w w8) := ⟨(below_step HB.out hb)⟩; have n1_ : Aside0 (QS w8 (fun k => w.heap.size ≤ k ∧ k < M0) q p.1 p.2 400) := ⟨(QS.below HQ.out hb)⟩; have n2_ : Aside0 (Kd.R k30 30 w8 0 (fun k => M0 ≤ k ∧ k < M1) (.slice B1 l.length bc1) (fillL l l.length)) := ⟨(Kd.R_below HLL.out hb)⟩; have n3_ : Aside0 (Kd.R k30 30 w8 0 (fun k => M1 ≤ k ∧ k < M2) (.slice B2 l.length bc2) l) := ⟨(Kd.R_below HMM.out hb)⟩; have n4_ : Aside0 (Kd.R k30 30 w8 0 (fun k => M3 ≤ k ∧ k < M4) (.slice B3 l.length bc3) l) := ⟨(Kd.R_below HWS.out hb)⟩; have n5_ : Aside0 (M4 ≤ w8.heap.size) := ⟨(Nat.le_trans HM.out hb.size)⟩; clear HB HQ HLL HMM HWS HM; have HB := n0_; have HQ := n1_; have HLL := n2_; have HMM := n3_; have HWS := n4_; have HM := n5_; clear n0_ n1_ n2_ n3_ n4_ n5_; clear hb hd) | (at_builtin; (refine Kd.R_append k30 (w0 := w8) (W := w8) 0 rfl (.tmp 42) (.tmp 44) 27 30 (.agg #[.int .i64 0, .int .i64 0, .int .i64 0]) 24 rfl Try.underlying27 info30 rfl (by decide) (by omega) (.slice B1 l.length bc1) (fillL l l.length) ⟨(-1), 0, 0⟩ [.int .i64 ((-1)), .int .i64 0, .int .i64 0] (fun k => ((fun k => M0 ≤ k ∧ k < M1) k) ∨ w8.heap.size ≤ k) (fun _ => False) rfl ?hx (k30_mkM _ _ _ ⟨(-1), 0, 0⟩) (fun _ hk => hk.elim) (fun k hk => .inr hk) (Kd.R_mono HLL.out (fun k hk => .inl hk)) (Below.refl 0 w8) (Nat.zero_le _) (by have := HL0.out; rw [fillL_len]; omega) ?_); (case hx => first | rfl | (go_simp; done) | (go_simp; rfl)); intro v1 w9 hR hb hg hat; have hk : Kp w8 w9 (fun k => M0 ≤ k ∧ k < M1) := Kp.of_grown hg (fun k e => HLL.out.1 k e); obtain ⟨B4, bc4, ev⟩ := Kd.R_slice hR; rw [List.length_append, fillL_len] at ev; subst ev; have hR2 := Kd.R_mono (R30_bound hR) (ok' := fun k => (((fun k => M0 ≤ k ∧ k < M1) k) ∨ M4 ≤ k) ∧ k < w9.heap.size) (fun k hk => ⟨hk.1.imp id (fun h => Nat.le_trans HM.out h), hk.2⟩); clear HLL hR hb hg hat; have n0_ : Aside0 (Below w.heap.size w w9) := ⟨(HB.out.trans (hk.below HB.out.size (fun k h => by have := HN.out; have := HM.out; omega)))⟩; have n1_ : Aside0 (QS w9 (fun k => w.heap.size ≤ k ∧ k < M0) q p.1 p.2 400) := ⟨(hk.qs HQ.out (fun k h1 h2 => by have := HN.out; have := HM.out; omega))⟩; have n2_ : Aside0 (Kd.R k30 30 w9 0 (fun k => M1 ≤ k ∧ k < M2) (.slice B2 l.length bc2) l) := ⟨(hk.R HMM.out (fun k h1 h2 => by have := HN.out; have := HM.out; omega))⟩; have n3_ : Aside0 (Kd.R k30 30 w9 0 (fun k => M3 ≤ k ∧ k < M4) (.slice B3 l.length bc3) l) := ⟨(hk.R HWS.out (fun k h1 h2 => by have := HN.out; have := HM.out; omega))⟩; have n4_ : Aside0 (M4 ≤ w9.heap.size) := ⟨(Nat.le_trans HM.out hk.size)⟩; clear HB HQ HMM HWS HM; have HB := n0_; have HQ := n1_; have HMM := n2_; have HWS := n3_; have HM := n4_; clear n0_ n1_ n2_ n3_ n4_; have HL2 := Aside0.mk hR2; have Tw9 : Aside0 (w8.heap.size ≤ w9.heap.size) := ⟨hk.size⟩; clear hR2 hk) | (at_builtin; (refine Kd.R_append k30 (w0 := w9) (W := w9) 0 rfl (.tmp 46) (.tmp 48) 27 30 (.agg #[.int .i64 0, .int .i64 0, .int .i64 0]) 24 rfl Try.underlying27 info30 rfl (by decide) (by omega) (.slice B2 l.length bc2) l ⟨(-2), 0, 0⟩ [.int .i64 ((-2)), .int .i64 0, .int .i64 0] (fun k => ((fun k => M1 ≤ k ∧ k < M2) k) ∨ w9.heap.size ≤ k) (fun _ => False) rfl ?hx (k30_mkM _ _ _ ⟨(-2), 0, 0⟩) (fun _ hk => hk.elim) (fun k hk => .inr hk) (Kd.R_mono HMM.out (fun k hk => .inl hk)) (Below.refl 0 w9) (Nat.zero_le _) (by have := HL0.out; omega) ?_); (case hx => first | rfl | (go_simp; done) | (go_simp; rfl)); intro v1 w10 hR hb hg hat; have hk : Kp w9 w10 (fun k => M1 ≤ k ∧ k < M2) := Kp.of_grown hg (fun k e => HMM.out.1 k e); obtain ⟨B5, bc5, ev⟩ := Kd.R_slice hR; rw [List.length_append] at ev; subst ev; have hR2 := Kd.R_mono (R30_bound hR) (ok' := fun k => (((fun k => M1 ≤ k ∧ k < M2) k) ∨ M4 ≤ k) ∧ k < w10.heap.size) (fun k hk => ⟨hk.1.imp id (fun h => Nat.le_trans HM.out h), hk.2⟩); clear HMM hR hb hg hat; have n0_ : Aside0 (Below w.heap.size w w10) := ⟨(HB.out.trans (hk.below HB.out.size (fun k h => by have := HN.out; have := HM.out; omega)))⟩; have n1_ : Aside0 (QS w10 (fun k => w.heap.size ≤ k ∧ k < M0) q p.1 p.2 400) := ⟨(hk.qs HQ.out (fun k h1 h2 => by have := HN.out; have := HM.out; omega))⟩; have n2_ : Aside0 (Kd.R k30 30 w10 0 (fun k => M3 ≤ k ∧ k < M4) (.slice B3 l.length bc3) l) := ⟨(hk.R HWS.out (fun k h1 h2 => by have := HN.out; have := HM.out; omega))⟩; have n3_ : Aside0 (M4 ≤ w10.heap.size) := ⟨(Nat.le_trans HM.out hk.size)⟩; have n4_ : Aside0 (Kd.R k30 30 w10 0 (fun k => ((M0 ≤ k ∧ k < M1) ∨ M4 ≤ k) ∧ k < w9.heap.size) (.slice B4 (l.length + [(⟨(-1), 0, 0⟩ : S30)].length) bc4) (fillL l l.length ++ [⟨(-1), 0, 0⟩])) := ⟨(hk.R HL2.out (fun k h1 h2 => by have := HN.out; have := HM.out; omega))⟩; clear HB HQ HWS HM HL2; have HB := n0_; have HQ := n1_; have HWS := n2_; have HM := n3_; have HL2 := n4_; clear n0_ n1_ n2_ n3_ n4_; have HM2 := Aside0.mk hR2; have Tw10 : Aside0 (w9.heap.size ≤ w10.heap.size) := ⟨hk.size⟩; clear hR2 hk))
        simp only [List.length_cons, List.length_nil, Nat.zero_add] at HL2 HM2 ⊢
        obtain ⟨n1, hn1⟩ : ∃ n1, l.length + 1 = n1 := ⟨_, rfl⟩
        rw [hn1] at HL2 HM2 ⊢
        have HN1 := Aside0.mk hn1
        clear hn1 Tw9 Tw10
        obtain ⟨la, hla⟩ : ∃ la, fillL l l.length ++ [(⟨-1, 0, 0⟩ : S30)] = la := ⟨_, rfl⟩
        have HA1 : Aside0 (∀ j, j < l.length → rd_T30 la (j : Int) = ⟨wrap64 (1000 + (j : Int)), 0, 0⟩) := ⟨fun j hj => by rw [← hla, rd_app (by rw [fillL_len]; exact hj)]; exact rd_fill hj⟩
        have HA2 : Aside0 (rd_T30 la (l.length : Int) = ⟨-1, 0, 0⟩) := ⟨by rw [← hla]; have := rd_end (l := fillL l l.length) (x := (⟨-1, 0, 0⟩ : S30)); rwa [fillL_len] at this⟩
        rw [hla] at HL2
        clear hla
        obtain ⟨lm, hlm⟩ : ∃ lm, l ++ [(⟨-2, 0, 0⟩ : S30)] = lm := ⟨_, rfl⟩
        have HA3 : Aside0 (∀ j, j < l.length → rd_T30 lm (j : Int) = rd_T30 l (j : Int)) := ⟨fun j hj => by rw [← hlm]; exact rd_app hj⟩
        rw [hlm] at HM2
        clear hlm
        replace HL2 : Aside0 (Kd.R k30 30 w10 0 (fun _ => True) (.slice B4 n1 bc4) la) := ⟨Kd.R_mono HL2.out (fun _ _ => trivial)⟩
        replace HM2 : Aside0 (Kd.R k30 30 w10 0 (fun _ => True) (.slice B5 n1 bc5) lm) := ⟨Kd.R_mono HM2.out (fun _ _ => trivial)⟩
        obtain ⟨ad1, hA, _⟩ := at_T30 (n := n1) (by have := (Kd.R_reads' HL2.out).2.2; rwa [← (Kd.R_reads' HL2.out).1] at this) (l.length : Int) (by omega) (by have := HN1.out; omega)
        cases hA
        clear HI HGG
        go_loopg [8] (l.length + 1) (fun gg v8 wr => ∃ (x8 : Int) (i : Nat), v8 = .int .i64 x8 ∧ l.length - i + 1 ≤ gg ∧ Aside0 (x8 = (i : Int) ∧ i ≤ l.length) ∧ Aside0 (Below w.heap.size w wr) ∧ Aside0 (QS wr (fun k => w.heap.size ≤ k ∧ k < M0) q p.1 p.2 400) ∧ Aside0 (Kd.R k30 30 wr 0 (fun _ => True) (.slice (some ad1) n1 bc4) la) ∧ Aside0 (Kd.R k30 30 wr 0 (fun _ => True) (.slice B5 n1 bc5) lm) ∧ Aside0 (Kd.R k30 30 wr 0 (fun k => M3 ≤ k ∧ k < M4) (.slice B3 l.length bc3) l))
        case atStart => exact ⟨0, 0, rfl, by omega, ⟨rfl, Nat.zero_le _⟩, HB, HQ, HL2, HM2, HWS⟩
        case round =>
          clear HB HQ HL2 HM2 HWS HM
          obtain ⟨x8, i, rfl, hgg, HI, HB, HQ, HL2, HM2, HWS⟩ := hrel
          have HGG := Aside0.mk hgg
          clear hgg
          by_cases c2 : x8 < (l.length : Int)
          · have c2b : decide (x8 < (l.length : Int)) = true := decide_eq_true c2
            have c3 : 0 ≤ x8 := by have := HI.out.1; omega
            have c3b : decide (0 ≤ x8) = true := decide_eq_true c3
            have c4 : x8 < (n1 : Int) := by have := HN1.out; omega
            have c4b := decide_eq_true c4
            have c2t := eq_true c2
            have c3t := eq_true c3
            have c4t := eq_true c4
            have hil : i < l.length := by have := HI.out.1; omega
            have HIL := Aside0.mk hil
            have hra : rd_T30 la x8 = ⟨wrap64 (1000 + x8), 0, 0⟩ := by rw [HI.out.1]; exact HA1.out i hil
            have hrm : rd_T30 lm x8 = rd_T30 l x8 := by rw [HI.out.1]; exact HA3.out i hil
            obtain ⟨x, hx⟩ : ∃ x, rd_T30 l x8 = x := ⟨_, rfl⟩
            rw [hx] at hrm
            obtain ⟨ad2, hA, _⟩ := at_T30 (n := n1) (by have := (Kd.R_reads' HM2.out).2.2; rwa [← (Kd.R_reads' HM2.out).1] at this) x8 c3 c4
            cases hA
            obtain ⟨ad3, hA, _⟩ := at_T30 (n := l.length) (by have := (Kd.R_reads' HWS.out).2.2; rwa [← (Kd.R_reads' HWS.out).1] at this) x8 c3 c2
            cases hA
            obtain ⟨ha0, ha1, ha2⟩ := el30 (n := n1) (by have := (Kd.R_reads' HL2.out).2.2; rwa [← (Kd.R_reads' HL2.out).1] at this) x8 c3 c4 hra
            obtain ⟨hm0, hm1, hm2⟩ := el30 (n := n1) (by have := (Kd.R_reads' HM2.out).2.2; rwa [← (Kd.R_reads' HM2.out).1] at this) x8 c3 c4 hrm
            obtain ⟨hw0, hw1, hw2⟩ := el30 (n := l.length) (by have := (Kd.R_reads' HWS.out).2.2; rwa [← (Kd.R_reads' HWS.out).1] at this) x8 c3 c2 hx
            clear c2 c3 c4 hil hra hrm hx
            go_wp2
            refine start_ (n := 19) (S := fun w' => w'.cell? (ad1.add (x8.toNat * 3)) = some (.int .i64 (wrap64 (1000 + x8))) ∧ w'.cell? (ad2.add (x8.toNat * 3)) = some (.int .i64 x.f0) ∧ w'.cell? ⟨(ad2.add (x8.toNat * 3)).block, (ad2.add (x8.toNat * 3)).off + 1, none⟩ = some (.int .i64 x.f1) ∧ w'.cell? ⟨(ad2.add (x8.toNat * 3)).block, (ad2.add (x8.toNat * 3)).off + 2, none⟩ = some (.int .i64 x.f2) ∧ w'.cell? (ad3.add (x8.toNat * 3)) = some (.int .i64 x.f0) ∧ w'.cell? ⟨(ad3.add (x8.toNat * 3)).block, (ad3.add (x8.toNat * 3)).off + 1, none⟩ = some (.int .i64 x.f1) ∧ w'.cell? ⟨(ad3.add (x8.toNat * 3)).block, (ad3.add (x8.toNat * 3)).off + 2, none⟩ = some (.int .i64 x.f2)) (ds := []) #[false, false, false, false, false, false, false, false, false, false, false, false, false, false, false, false, false, false, false] (by kernel_rfl) rfl rfl ⟨ha0, hm0, hm1, hm2, hw0, hw1, hw2⟩ (fun hHeld => ?_)
            refine pure_ (i := 0) (N := some 56) (v := ?_) (a' := ?_) #[true, false, false, false, false, false, false, false, false, false, false, false, false, false, false, false, false, false, false] rfl rfl (by kernel_rfl) (fun _ _ _ h => h) (Or.inl ⟨by rfl, ?_⟩) ?_ ?_
            rotate_left
            · intro w'
              go_simp
              with_reducible rfl
            rotate_left
            · simp only [Act.put, List.setIfInBounds_toArray, List.set_cons_zero, List.set_cons_succ, i64_w, i32_w]
              rfl
            refine pure_ (i := 1) (N := some 57) (v := ?_) (a' := ?_) #[true, true, false, false, false, false, false, false, false, false, false, false, false, false, false, false, false, false, false] rfl rfl (by kernel_rfl) (fun _ _ _ h => h) (Or.inl ⟨by rfl, ?_⟩) ?_ ?_
            rotate_left
            · intro w'
              go_simp
              with_reducible rfl
            rotate_left
            · simp only [Act.put, List.setIfInBounds_toArray, List.set_cons_zero, List.set_cons_succ, i64_w, i32_w]
              rfl
            refine pure_ (i := 2) (N := some 58) (v := ?_) (a' := ?_) #[true, true, true, false, false, false, false, false, false, false, false, false, false, false, false, false, false, false, false] rfl rfl (by kernel_rfl) (fun _ _ _ h => h) (Or.inl ⟨by rfl, ?_⟩) ?_ ?_
            rotate_left
            · intro w'
              go_simp
              with_reducible rfl
            rotate_left
            · simp only [Act.put, List.setIfInBounds_toArray, List.set_cons_zero, List.set_cons_succ, i64_w, i32_w]
              rfl
            refine pure_ (i := 3) (N := some 59) (v := ?_) (a' := ?_) #[true, true, true, true, false, false, false, false, false, false, false, false, false, false, false, false, false, false, false] rfl rfl (by kernel_rfl) (fun _ _ _ h => h) (Or.inl ⟨by rfl, ?_⟩) ?_ ?_
            rotate_left
            · intro w'
              go_simp
              with_reducible rfl
            rotate_left
            · simp only [Act.put, List.setIfInBounds_toArray, List.set_cons_zero, List.set_cons_succ, i64_w, i32_w]
              rfl
            refine pure_ (i := 5) (N := some 61) (v := ?_) (a' := ?_) #[true, true, true, true, false, true, false, false, false, false, false, false, false, false, false, false, false, false, false] rfl rfl (by kernel_rfl) (fun _ _ _ h => h) (Or.inl ⟨by rfl, ?_⟩) ?_ ?_
            rotate_left
            · intro w'
              go_simp
              with_reducible rfl
            rotate_left
            · simp only [Act.put, List.setIfInBounds_toArray, List.set_cons_zero, List.set_cons_succ, i64_w, i32_w]
              rfl
            refine pure_ (i := 6) (N := some 62) (v := ?_) (a' := ?_) #[true, true, true, true, false, true, true, false, false, false, false, false, false, false, false, false, false, false, false] rfl rfl (by kernel_rfl) (fun _ _ _ h => h) (Or.inl ⟨by rfl, ?_⟩) ?_ ?_
            rotate_left
            · intro w'
              go_simp
              with_reducible rfl
            rotate_left
            · simp only [Act.put, List.setIfInBounds_toArray, List.set_cons_zero, List.set_cons_succ, i64_w, i32_w]
              rfl
            refine take_ (i := 4) (N := some 60) (v := ?_) (a' := ?_) #[true, true, true, true, true, true, true, false, false, false, false, false, false, false, false, false, false, false, false] rfl rfl (by kernel_rfl) (fun _ _ _ h => h) (Or.inl ⟨by rfl, ?_⟩) hHeld ?_ ?_
            rotate_left
            · rintro w' ⟨s0, s1, s2, s3, s4, s5, s6⟩
              go_simp
              with_reducible rfl
            rotate_left
            · simp only [Act.put, List.setIfInBounds_toArray, List.set_cons_zero, List.set_cons_succ, i64_w, i32_w]
              rfl
            refine pure_ (i := 7) (N := some 63) (v := ?_) (a' := ?_) #[true, true, true, true, true, true, true, true, false, false, false, false, false, false, false, false, false, false, false] rfl rfl (by kernel_rfl) (fun _ _ _ h => h) (Or.inl ⟨by rfl, ?_⟩) ?_ ?_
            rotate_left
            · intro w'
              go_simp
              with_reducible rfl
            rotate_left
            · simp only [Act.put, List.setIfInBounds_toArray, List.set_cons_zero, List.set_cons_succ, i64_w, i32_w]
              rfl
            refine pure_ (i := 8) (N := some 64) (v := ?_) (a' := ?_) #[true, true, true, true, true, true, true, true, true, false, false, false, false, false, false, false, false, false, false] rfl rfl (by kernel_rfl) (fun _ _ _ h => h) (Or.inl ⟨by rfl, ?_⟩) ?_ ?_
            rotate_left
            · intro w'
              go_simp
              with_reducible rfl
            rotate_left
            · simp only [Act.put, List.setIfInBounds_toArray, List.set_cons_zero, List.set_cons_succ, i64_w, i32_w]
              rfl
            refine pure_ (i := 9) (N := some 65) (v := ?_) (a' := ?_) #[true, true, true, true, true, true, true, true, true, true, false, false, false, false, false, false, false, false, false] rfl rfl (by kernel_rfl) (fun _ _ _ h => h) (Or.inl ⟨by rfl, ?_⟩) ?_ ?_
            rotate_left
            · intro w'
              go_simp
              with_reducible rfl
            rotate_left
            · simp only [Act.put, List.setIfInBounds_toArray, List.set_cons_zero, List.set_cons_succ, i64_w, i32_w]
              rfl
            refine pure_ (i := 10) (N := some 66) (v := ?_) (a' := ?_) #[true, true, true, true, true, true, true, true, true, true, true, false, false, false, false, false, false, false, false] rfl rfl (by kernel_rfl) (fun _ _ _ h => h) (Or.inl ⟨by rfl, ?_⟩) ?_ ?_
            rotate_left
            · intro w'
              go_simp
              with_reducible rfl
            rotate_left
            · simp only [Act.put, List.setIfInBounds_toArray, List.set_cons_zero, List.set_cons_succ, i64_w, i32_w]
              rfl
            refine pure_ (i := 11) (N := some 67) (v := ?_) (a' := ?_) #[true, true, true, true, true, true, true, true, true, true, true, true, false, false, false, false, false, false, false] rfl rfl (by kernel_rfl) (fun _ _ _ h => h) (Or.inl ⟨by rfl, ?_⟩) ?_ ?_
            rotate_left
            · intro w'
              go_simp
              with_reducible rfl
            rotate_left
            · simp only [Act.put, List.setIfInBounds_toArray, List.set_cons_zero, List.set_cons_succ, i64_w, i32_w]
              rfl
            refine pure_ (i := 13) (N := some 69) (v := ?_) (a' := ?_) #[true, true, true, true, true, true, true, true, true, true, true, true, false, true, false, false, false, false, false] rfl rfl (by kernel_rfl) (fun _ _ _ h => h) (Or.inl ⟨by rfl, ?_⟩) ?_ ?_
            rotate_left
            · intro w'
              go_simp
              with_reducible rfl
            rotate_left
            · simp only [Act.put, List.setIfInBounds_toArray, List.set_cons_zero, List.set_cons_succ, i64_w, i32_w]
              rfl
            refine pure_ (i := 14) (N := some 70) (v := ?_) (a' := ?_) #[true, true, true, true, true, true, true, true, true, true, true, true, false, true, true, false, false, false, false] rfl rfl (by kernel_rfl) (fun _ _ _ h => h) (Or.inl ⟨by rfl, ?_⟩) ?_ ?_
            rotate_left
            · intro w'
              go_simp
              with_reducible rfl
            rotate_left
            · simp only [Act.put, List.setIfInBounds_toArray, List.set_cons_zero, List.set_cons_succ, i64_w, i32_w]
              rfl
            refine pure_ (i := 15) (N := some 71) (v := ?_) (a' := ?_) #[true, true, true, true, true, true, true, true, true, true, true, true, false, true, true, true, false, false, false] rfl rfl (by kernel_rfl) (fun _ _ _ h => h) (Or.inl ⟨by rfl, ?_⟩) ?_ ?_
            rotate_left
            · intro w'
              go_simp
              with_reducible rfl
            rotate_left
            · simp only [Act.put, List.setIfInBounds_toArray, List.set_cons_zero, List.set_cons_succ, i64_w, i32_w]
              rfl
            refine take_ (i := 12) (N := some 68) (v := ?_) (a' := ?_) #[true, true, true, true, true, true, true, true, true, true, true, true, true, true, true, true, false, false, false] rfl rfl (by kernel_rfl) (fun _ _ _ h => h) (Or.inl ⟨by rfl, ?_⟩) hHeld ?_ ?_
            rotate_left
            · rintro w' ⟨s0, s1, s2, s3, s4, s5, s6⟩
              go_simp
              with_reducible rfl
            rotate_left
            · simp only [Act.put, List.setIfInBounds_toArray, List.set_cons_zero, List.set_cons_succ, i64_w, i32_w]
              rfl
            refine take_ (i := 16) (N := some 72) (v := ?_) (a' := ?_) #[true, true, true, true, true, true, true, true, true, true, true, true, true, true, true, true, true, false, false] rfl rfl (by kernel_rfl) (fun _ _ _ h => h) (Or.inl ⟨by rfl, ?_⟩) hHeld ?_ ?_
            rotate_left
            · rintro w' ⟨s0, s1, s2, s3, s4, s5, s6⟩
              go_simp
              with_reducible rfl
            rotate_left
            · simp only [Act.put, List.setIfInBounds_toArray, List.set_cons_zero, List.set_cons_succ, i64_w, i32_w]
              rfl
            refine pure_ (i := 17) (N := some 73) (v := ?_) (a' := ?_) #[true, true, true, true, true, true, true, true, true, true, true, true, true, true, true, true, true, true, false] rfl rfl (by kernel_rfl) (fun _ _ _ h => h) (Or.inl ⟨by rfl, ?_⟩) ?_ ?_
            rotate_left
            · intro w'
              go_simp
              with_reducible rfl
            rotate_left
            · simp only [Act.put, List.setIfInBounds_toArray, List.set_cons_zero, List.set_cons_succ, i64_w, i32_w]
              rfl
            refine pure_ (i := 18) (N := some 74) (v := ?_) (a' := ?_) #[true, true, true, true, true, true, true, true, true, true, true, true, true, true, true, true, true, true, true] rfl rfl (by kernel_rfl) (fun _ _ _ h => h) (Or.inl ⟨by rfl, ?_⟩) ?_ ?_
            rotate_left
            · intro w'
              go_simp
              with_reducible rfl
            rotate_left
            · simp only [Act.put, List.setIfInBounds_toArray, List.set_cons_zero, List.set_cons_succ, i64_w, i32_w]
              rfl
            refine done_ (by kernel_rfl) ?_
            clear ha0 ha1 ha2 hm0 hm1 hm2 hw0 hw1 hw2
            have n0_ : Aside0 (Below w.heap.size w wr.drew) := ⟨(below_step HB.out (below_drew1 (Below.refl wr.heap.size wr)))⟩
            have n1_ : Aside0 (QS wr.drew (fun k => w.heap.size ≤ k ∧ k < M0) q p.1 p.2 400) := ⟨(QS.below HQ.out (below_drew1 (Below.refl wr.heap.size wr)))⟩
            have n2_ : Aside0 (Kd.R k30 30 wr.drew 0 (fun _ => True) (.slice (some ad1) n1 bc4) la) := ⟨(Kd.R_below HL2.out (below_drew1 (Below.refl wr.heap.size wr)))⟩
            have n3_ : Aside0 (Kd.R k30 30 wr.drew 0 (fun _ => True) (.slice (some ad2) n1 bc5) lm) := ⟨(Kd.R_below HM2.out (below_drew1 (Below.refl wr.heap.size wr)))⟩
            have n4_ : Aside0 (Kd.R k30 30 wr.drew 0 (fun k => M3 ≤ k ∧ k < M4) (.slice (some ad3) l.length bc3) l) := ⟨(Kd.R_below HWS.out (below_drew1 (Below.refl wr.heap.size wr)))⟩
            clear HB HQ HL2 HM2 HWS
            have HB := n0_
            have HQ := n1_
            have HL2 := n2_
            have HM2 := n3_
            have HWS := n4_
            clear n0_ n1_ n2_ n3_ n4_
            go_wp2
            go_roundg (l.length - i)
            case measure => have := HGG.out; have := HIL.out; omega
            case rel =>
              have he : wrap64 (x8 + 1) = ((i + 1 : Nat) : Int) := by have := HI.out.1; have := HL0.out; have := HIL.out; rw [w64 (by omega) (by omega)]; omega
              exact ⟨wrap64 (x8 + 1), i + 1, rfl, by have := HIL.out; omega, ⟨he, HIL.out⟩, HB, HQ, HL2, HM2, HWS⟩
          · have c2b : decide (x8 < (l.length : Int)) = false := decide_eq_false c2
            clear c2
            have k0 : (0 : Int) ≤ (l.length : Int) := by omega
            have k1 : (l.length : Int) < (n1 : Int) := by have := HN1.out; omega
            have k2 : l.length < n1 := by omega
            obtain ⟨he0, _, _⟩ := el30 (n := n1) (by have := (Kd.R_reads' HL2.out).2.2; rwa [← (Kd.R_reads' HL2.out).1] at this) (l.length : Int) k0 k1 HA2.out
            have he1 : wr.cell? (ad1.add (l.length * 3)) = some (.int .i64 (-1)) := he0
            have k1b := decide_eq_true k1
            have k2b := decide_eq_true k2
            have k1t := eq_true k1
            have k2t := eq_true k2
            clear k1 k2
            go_wp2_with (first | (go_at_call 11; (with_reducible refine (QS.cells HQ.out HPL.out HSN.out).mono ?_); rintro e w11 hcp; obtain ⟨v, rfl, hR, hb⟩ := hcp; rw [HCL.out] at hR; obtain ⟨B6, bc6, ev⟩ := Kd.R_slice hR; subst ev; have n0_ : Aside0 (Below w.heap.size w w11) := ⟨(below_step HB.out hb)⟩; have n1_ : Aside0 (Kd.R k30 30 w11 0 (fun k => M3 ≤ k ∧ k < M4) (.slice B3 l.length bc3) l) := ⟨(Kd.R_below HWS.out hb)⟩; clear HB HWS; have HB := n0_; have HWS := n1_; clear n0_ n1_; have HR6 := Aside0.mk hR; clear hR hb) | (go_at_call 15; (with_reducible refine (whittlelaw14_cells.calls kc B6 bc6 l B3 bc3 l true _ (Kd.R_reads' HR6.out).2.2 (Kd.R_reads' HR6.out).2.1 (Kd.R_reads' HWS.out).2.2 (Kd.R_reads' HWS.out).2.1 HKC.out).mono ?_); rintro e w12 ⟨rfl, hd⟩; have n0_ : Aside0 (Below w.heap.size w w12) := ⟨below_step HB.out hd.below⟩; clear hd HB; have HB := n0_; clear n0_))
            go_ret
            exact ⟨rfl, HB.out⟩
end Go.Proofs.Ytgkbcgmcpbbneaa.Q
