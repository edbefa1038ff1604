/- The walk of QueueLast. -/
import Derived.Test.YtgkbcgmcpbbneaaPlc
import Derived.Test.YtgkbcgmcpbbneaaCrd
namespace Go.Proofs.Ytgkbcgmcpbbneaa.Q
open Go Go.RowKit Go.Maps Go.Proofs.YtgkbcgmcpbbneaaW.PrintWords Go.Proofs.YtgkbcgmcpbbneaaW.PrintLast Go.Proofs.YtgkbcgmcpbbneaaW.PrintMore
set_option maxRecDepth 100000
set_option linter.unusedVariables false
set_option linter.unusedSimpArgs false

set_option maxHeartbeats 8000000 in
theorem last_contract (w : World) (A : Option Addr) (c : Nat) (xs : List S43) (hC : Kd.C k43 w A xs.length xs) (hc : xs.length ≤ c) (hh : NotHuge xs) (hw : ∀ a ∈ xs, WfA a) (A1 : Option Addr) (c1 : Nat) (ys : List S46) (hC2 : Kd.C k46 w A1 ys.length ys) (hlc2 : ys.length ≤ c1) (hlb2 : ys.length ≤ reachBytes) :
    Calls Try.prog 7 #[.slice A xs.length c, .slice A1 ys.length c1] w fun e w' => e = .returned (.bool true) ∧ Below w.heap.size w w' := by
  have hu30 := Try.underlying30
  have hu27 := Try.underlying27
  have hu39 := Try.underlying39
  obtain ⟨km, bm, hmu, hfew⟩ := much_ok xs hh
  obtain ⟨p, hp⟩ : ∃ p, runP xs = p := ⟨_, rfl⟩
  have HP := Aside0.mk hp
  have HMU := Aside0.mk hmu
  have HC := Aside0.mk hC
  have HCC := Aside0.mk hc
  have HWA := Aside0.mk hw
  have HC2 := Aside0.mk hC2
  have HLC2 := Aside0.mk hlc2
  clear hC2 hlc2 hlb2
  clear hC hc hh hw hp hmu
  cases bm with
  | true =>
    go_enter Try.func7, Try.ntmps7
    go_wp2_with (first | (go_at_call 8; (with_reducible refine (able_calls _).mono ?_); rintro e w1 ⟨rfl, hb⟩; have HB := Aside0.mk hb; clear hb) | (go_at_call 9; (with_reducible refine (whittlelaw14_much.calls km A c xs _ w1 (Kd.C_below HC.out HB.out) HCC.out HMU.out).mono ?_); rintro e w2 ⟨rfl, hd⟩; have n0_ : Aside0 (Below w.heap.size w w2) := ⟨below_step HB.out hd.below⟩; clear HB hd; have HB := n0_; clear n0_))
    go_ret
    exact ⟨rfl, HB.out⟩
  | false =>
    by_cases hy : (400 : Int) < (ys.length : Int)
    · have hyb : decide ((400 : Int) < (ys.length : Int)) = true := decide_eq_true hy
      go_enter Try.func7, Try.ntmps7
      go_wp2_with (first | (go_at_call 8; (with_reducible refine (able_calls _).mono ?_); rintro e w1 ⟨rfl, hb⟩; have HB := Aside0.mk hb; clear hb) | (go_at_call 9; (with_reducible refine (whittlelaw14_much.calls km A c xs _ w1 (Kd.C_below HC.out HB.out) HCC.out HMU.out).mono ?_); rintro e w2 ⟨rfl, hd⟩; have n0_ : Aside0 (Below w.heap.size w w2) := ⟨below_step HB.out hd.below⟩; clear HB hd; have HB := n0_; clear n0_))
      go_ret
      exact ⟨rfl, HB.out⟩
    · have hyb : decide ((400 : Int) < (ys.length : Int)) = false := decide_eq_false hy
      have HY : Aside0 (ys.length ≤ 400) := ⟨by omega⟩
      have HY6 : Aside0 (ys.length ≤ 1000000) := ⟨by omega⟩
      clear hy
      have HFW : Aside0 (Few xs) := ⟨hfew rfl⟩
      clear hfew
      have HPL : Aside0 (p.1.length ≤ 1000000) := ⟨by have := runP_len xs; have := HFW.out.1; rw [← HP.out]; omega⟩
      have HP4 : Aside0 (p.1.length ≤ 400) := ⟨by have := runP_len xs; have := HFW.out.1; rw [← HP.out]; omega⟩
      have HSN : Aside0 (p.2.length ≤ 1000000) := ⟨by have := runP_seen HFW.out; rw [← HP.out]; omega⟩
      have HS4 : Aside0 (p.2.length ≤ 400) := ⟨by have := runP_seen HFW.out; rw [← HP.out]; omega⟩
      have HM4 : Aside0 (400 ≤ 1000000) := ⟨by omega⟩
      go_enter Try.func7, Try.ntmps7
      go_wp2_with (first | (go_at_call 8; (with_reducible refine (able_calls _).mono ?_); rintro e w1 ⟨rfl, hb⟩; have HB := Aside0.mk hb; clear hb) | (go_at_call 9; (with_reducible refine (whittlelaw14_much.calls km A c xs _ w1 (Kd.C_below HC.out HB.out) HCC.out HMU.out).mono ?_); rintro e w2 ⟨rfl, hd⟩; have n0_ : Aside0 (Below w.heap.size w w2) := ⟨below_step HB.out hd.below⟩; clear HB hd; have HB := n0_; clear n0_) | (go_at_call 10; (with_reducible refine (made_calls _ A c xs (Kd.C_below HC.out HB.out) HFW.out HWA.out).mono ?_); rintro e w3 ⟨q, rfl, hq, hb⟩; have n0_ : Aside0 (Below w.heap.size w w3) := ⟨below_step HB.out hb⟩; have HQ : Aside0 (QS w3 (fun k => w.heap.size ≤ k ∧ k < w3.heap.size) q p.1 p.2 400) := ⟨by rw [← HP.out]; exact (QS.bound hq).mono (fun k hk => ⟨Nat.le_trans HB.out.size hk.1, hk.2⟩)⟩; clear HB hq hb; have HB := n0_; clear n0_) | (go_at_call 16; (with_reducible refine (QS.new _).mono ?_); rintro e w4 ⟨pq, rfl, hq, hb⟩; have n0_ : Aside0 (Below w.heap.size w w4) := ⟨below_step HB.out hb⟩; have HPQ : Aside0 (QS w4 (fun k => w3.heap.size ≤ k ∧ k < w4.heap.size) pq [] [] 0) := ⟨QS.bound hq⟩; have n1_ := Aside0.mk (QS.below HQ.out hb); have S34 : Aside0 (w.heap.size ≤ w3.heap.size ∧ w3.heap.size ≤ w4.heap.size) := ⟨HB.out.size, hb.size⟩; clear HB HQ hq hb; have HB := n0_; have HQ := n1_; clear n0_ n1_) | (at_builtin; (refine Kd.R_append_rows k46 (Rr := k46.K w4) (w0 := w4) (W := (w4.alloc (.cells #[] 46))) 0 rfl (.tmp 24) (.tmp 25) 39 46 (.agg #[.int .i64 0, .int .i64 0, .int .i64 0, .int .i64 0, .int .i64 0]) 40 rfl Try.underlying39 info46 rfl (by decide) (by omega) (.slice (some ⟨w4.heap.size, 0, none⟩) 0 0) [] ys A1 ys.length c1 (fun k => w4.heap.size ≤ k) (fun _ => False) rfl rfl (R_empty w4 _ (Nat.le_refl _)) (Kd.C_alloc (Kd.C_below HC2.out HB.out) _) ?hkm (fun _ hk => hk.elim) (fun k hk => ?hfr) ((Below.refl 0 w4).alloc (Nat.zero_le _) _) (Nat.zero_le _) (by have := HY.out; simp; omega) ?_); (case hkm => intro x cs hx; obtain rfl := k46_open hx; exact k46_mkM _ _ _ x); (case hfr => exact Nat.le_trans (Nat.le_of_lt (by simp)) hk); intro v1 w5 hR hb hg hat; have hb_ : Below w4.heap.size w4 w5 := (below_alloc (Below.refl _ _) _).grown hg (by simp) (fun k hk => by simp [Value.ownBlock] at hk; omega); have HR1 : Aside0 (Kd.R k46 46 w5 0 (fun k => w4.heap.size ≤ k) v1 ys) := ⟨hR⟩; clear hR hb hg hat; obtain ⟨B1, bc1, ev⟩ := Kd.R_slice HR1.out; subst ev; have n0_ := Aside0.mk (QS.below HQ.out hb_); have n1_ := Aside0.mk (QS.below HPQ.out hb_); have n2_ := Aside0.mk (below_step HB.out hb_); have S45 : Aside0 (w4.heap.size ≤ w5.heap.size) := ⟨hb_.size⟩; clear hb_ HQ HPQ HB; have HQ := n0_; have HPQ := n1_; have HB := n2_; clear n0_ n1_ n2_) | (go_at_call 20; (with_reducible refine (QS.see HQ.out B1 ys.length bc1 ys (Kd.R_reads' HR1.out).2.2 HY6.out HPL.out).mono ?_); rintro e w6 ⟨rfl, hq, hk⟩; have n0_ : Aside0 (QS w6 (fun k => k < w3.heap.size ∨ w5.heap.size ≤ k ∧ k < w6.heap.size) q p.1 ys p.1.length) := ⟨(QS.bound hq).mono (fun k hk => hk.1.elim (fun h => .inl h.2) (fun h => .inr ⟨h, hk.2⟩))⟩; have n1_ : Aside0 (QS w6 (fun k => w3.heap.size ≤ k ∧ k < w4.heap.size) pq [] [] 0) := ⟨hk.qs HPQ.out (fun k h h2 => by omega)⟩; have n2_ : Aside0 (Below w.heap.size w w6) := ⟨HB.out.trans (hk.below HB.out.size (fun k h => h.1))⟩; have S56 : Aside0 (w5.heap.size ≤ w6.heap.size) := ⟨hk.size⟩; clear hq hk HQ HPQ HB HR1; have HQ := n0_; have HPQ := n1_; have HB := n2_; clear n0_ n1_ n2_) | (go_at_call 11; (with_reducible refine (QS.cells HQ.out HPL.out HY6.out).mono ?_); rintro e w7 hcp; obtain ⟨v, rfl, hR, hb⟩ := hcp; obtain ⟨B, bc, ev⟩ := Kd.R_slice hR; subst ev; have HLR := Aside0.mk (R30_bound hR); have n0_ := Aside0.mk (QS.below HQ.out hb); have n1_ := Aside0.mk (QS.below HPQ.out hb); have n2_ := Aside0.mk (below_step HB.out hb); have S67 : Aside0 (w6.heap.size ≤ w7.heap.size) := ⟨hb.size⟩; clear hR hb HQ HPQ HB; have HQ := n0_; have HPQ := n1_; have HB := n2_; clear n0_ n1_ n2_))
      have HM : Aside0 (w7.heap.size ≤ w7.heap.size) := ⟨Nat.le_refl _⟩
      generalize hN5 : w7.heap.size = N5 at HLR S67 HM
      replace HM : Aside0 (N5 ≤ w7.heap.size) := ⟨by rw [hN5]; exact Nat.le_refl _⟩
      clear hN5
      generalize w6.heap.size = N4 at HLR HQ S56 S67
      generalize w5.heap.size = N3 at HQ S45 S56
      generalize w4.heap.size = N2 at HPQ S34 S45
      generalize w3.heap.size = N1 at HQ HPQ S34
      have HN : Aside0 (w.heap.size ≤ N1 ∧ N1 ≤ N2 ∧ N2 ≤ N3 ∧ N3 ≤ N4 ∧ N4 ≤ N5) := ⟨S34.out.1, S34.out.2, S45.out, S56.out, S67.out⟩
      clear S34 S45 S56 S67
      replace HPQ : Aside0 (QS w7 (fun k => N1 ≤ k ∧ k < N2 ∨ N5 ≤ k) pq [] [] 0) := ⟨HPQ.out.mono (fun k hk => .inl hk)⟩
      obtain ⟨l, hl⟩ : ∃ l, cellsOf p.1 ys = l := ⟨_, rfl⟩
      have HL0 : Aside0 (l.length ≤ 400) := ⟨by rw [← hl, cellsOf_length]; exact HP4.out⟩
      have HCL := Aside0.mk hl
      rw [hl] at HLR ⊢
      clear hl
      go_loopg [8] (l.length + 1) (fun gg v8 wr => ∃ (x8 : Int) (i : Nat) (Lp : List Wt), v8 = .int .i64 x8 ∧ i + 1 ≤ gg ∧ Aside0 (x8 = (i : Int) - 1 ∧ i ≤ l.length ∧ Lp.length + i ≤ 400 ∧ Rest Lp p.1 l i) ∧ Aside0 (QS wr (fun k => N1 ≤ k ∧ k < N2 ∨ N5 ≤ k) pq Lp [] (800 - 2 * i)) ∧ Aside0 (QS wr (fun k => k < N1 ∨ N3 ≤ k ∧ k < N4) q p.1 ys p.1.length) ∧ Aside0 (Below w.heap.size w wr) ∧ Aside0 (Kd.R k30 30 wr 0 (fun k => N4 ≤ k ∧ k < N5) (.slice B l.length bc) l) ∧ Aside0 (N5 ≤ wr.heap.size))
      case atStart => exact ⟨wrap64 ((l.length : Int) - 1), l.length, [], rfl, by omega, ⟨by have := HL0.out; rw [w64 (by omega) (by omega)], Nat.le_refl _, by have := HL0.out; simpa using this, Rest.start _ _⟩, ⟨HPQ.out.grow (Nat.zero_le _)⟩, HQ, HB, HLR, HM⟩
      case round =>
        clear HPQ HQ HB HLR HM
        obtain ⟨x8, i, Lp, rfl, hgg, HI, HPQ, HQ, HB, HLR, HM⟩ := hrel
        have HGG := Aside0.mk hgg
        clear hgg
        by_cases c2 : 0 ≤ x8
        · have c2b : decide (0 ≤ x8) = true := decide_eq_true c2
          obtain ⟨j, rfl⟩ : ∃ j, i = j + 1 := ⟨i - 1, by have := HI.out.1; omega⟩
          have hxj : x8 = (j : Int) := by have := HI.out.1; omega
          have hjl : j < l.length := by have := HI.out.2.1; omega
          have c3 : x8 < (l.length : Int) := by omega
          have c3b : decide (x8 < (l.length : Int)) = true := decide_eq_true c3
          have hrd : rd_T30 l x8 = l[j] := by rw [hxj]; exact rd30 l j hjl
          have hdr : l.drop j = rd_T30 l x8 :: l.drop (j + 1) := by rw [hrd]; exact List.drop_eq_getElem_cons hjl
          obtain ⟨x, hx⟩ : ∃ x, rd_T30 l x8 = x := ⟨_, rfl⟩
          rw [hx] at hdr hrd
          have hmx : x ∈ cellsOf p.1 ys := by rw [HCL.out, hrd]; exact List.getElem_mem hjl
          obtain ⟨n, hn, hwn⟩ := look_level HQ.out.wf hmx
          have HWX : Aside0 (Wc x) := ⟨cellsOf_wc HQ.out.wf hmx⟩
          have HNX := Aside0.mk hn
          have HWN := Aside0.mk hwn
          have HWN2 : Aside0 (Wf (wrap64 (n + 1))) := ⟨wf_wrap _⟩
          have HDR := Aside0.mk hdr
          have HXJ := Aside0.mk hxj
          have HJL := Aside0.mk hjl
          obtain ⟨ad, hA, hx0, hx1, hx2⟩ := at_T30 (Kd.R_reads' HLR.out).2.2 x8 c2 c3
          cases hA
          rw [hx] at hx0 hx1 hx2
          have HX0 := Aside0.mk c2
          have HX1 := Aside0.mk c3
          have HRD := Aside0.mk hx
          have c2t := eq_true c2
          have c3t := eq_true c3
          clear hmx hn hwn hdr hrd hxj hjl hx c2 c3
          have HMB : Aside0 (800 - 2 * (j + 1) ≤ 1000000) := ⟨by omega⟩
          have HMB2 : Aside0 (800 - 2 * (j + 1) + 1 ≤ 1000000) := ⟨by omega⟩
          have HLB : Aside0 (Lp.length ≤ 1000000) := ⟨by have := HI.out.2.2.1; omega⟩
          have HLB2 : Aside0 ((putL Lp x (wrap64 (n + 1))).length ≤ 1000000) := ⟨by have := HI.out.2.2.1; have := putL_len_le Lp x (wrap64 (n + 1)); omega⟩
          go_wp2_with (first | (go_at_call 23; (with_reducible refine (QS.level_n HQ.out x HWX.out n HNX.out).mono ?_); rintro e w8 ⟨rfl, hb⟩; clear hx0 hx1 hx2; have n0_ : Aside0 (Below w.heap.size w w8) := ⟨(below_step HB.out hb)⟩; have n1_ : Aside0 (Kd.R k30 30 w8 0 (fun k => N4 ≤ k ∧ k < N5) (.slice (some ad) l.length bc) l) := ⟨(Kd.R_below HLR.out hb)⟩; have n2_ : Aside0 (N5 ≤ w8.heap.size) := ⟨(Nat.le_trans HM.out hb.size)⟩; have n3_ : Aside0 (QS w8 (fun k => k < N1 ∨ N3 ≤ k ∧ k < N4) q p.1 ys p.1.length) := ⟨(QS.below HQ.out hb)⟩; have n4_ : Aside0 (QS w8 (fun k => N1 ≤ k ∧ k < N2 ∨ N5 ≤ k) pq Lp [] (800 - 2 * (j + 1))) := ⟨(QS.below HPQ.out hb)⟩; clear HB HLR HM HQ HPQ; have HB := n0_; have HLR := n1_; have HM := n2_; have HQ := n3_; have HPQ := n4_; clear n0_ n1_ n2_ n3_ n4_; clear hb; obtain ⟨hx0, hx1, hx2⟩ := el30 (Kd.R_reads' HLR.out).2.2 x8 HX0.out HX1.out HRD.out) | (go_at_call 17; (with_reducible refine (QS.put HPQ.out x HWX.out ((wrap64 (n + 1))) HWN2.out HLB.out HMB.out (by simp)).mono ?_); rintro e w9 ⟨rfl, hq, hk⟩; clear hx0 hx1 hx2; replace hq := hq.mono (F2 := (fun k => N1 ≤ k ∧ k < N2 ∨ N5 ≤ k)) (fun k hk => hk.elim id (fun h => .inr (Nat.le_trans HM.out h))); have n0_ : Aside0 (Below w.heap.size w w9) := ⟨(HB.out.trans (hk.below HB.out.size (fun k h => by have := HN.out; omega)))⟩; have n1_ : Aside0 (Kd.R k30 30 w9 0 (fun k => N4 ≤ k ∧ k < N5) (.slice (some ad) l.length bc) l) := ⟨(hk.R HLR.out (fun k h1 h2 => by have := HN.out; omega))⟩; have n2_ : Aside0 (N5 ≤ w9.heap.size) := ⟨(Nat.le_trans HM.out hk.size)⟩; have n3_ : Aside0 (QS w9 (fun k => k < N1 ∨ N3 ≤ k ∧ k < N4) q p.1 ys p.1.length) := ⟨(hk.qs HQ.out (fun k h1 h2 => by have := HN.out; omega))⟩; have n4_ : Aside0 (QS w9 (fun k => N1 ≤ k ∧ k < N2 ∨ N5 ≤ k) pq (putL Lp x (wrap64 (n + 1))) [] (800 - 2 * (j + 1) + 1)) := ⟨hq.grow (by have := HI.out.2.1; have := HL0.out; omega)⟩; clear HB HLR HM HQ HPQ; have HB := n0_; have HLR := n1_; have HM := n2_; have HQ := n3_; have HPQ := n4_; clear n0_ n1_ n2_ n3_ n4_; clear hq hk; obtain ⟨hx0, hx1, hx2⟩ := el30 (Kd.R_reads' HLR.out).2.2 x8 HX0.out HX1.out HRD.out) | (go_at_call 17; (with_reducible refine (QS.put HPQ.out x HWX.out (n) HWN.out HLB2.out HMB2.out (by simp)).mono ?_); rintro e w10 ⟨rfl, hq, hk⟩; clear hx0 hx1 hx2; replace hq := hq.mono (F2 := (fun k => N1 ≤ k ∧ k < N2 ∨ N5 ≤ k)) (fun k hk => hk.elim id (fun h => .inr (Nat.le_trans HM.out h))); have n0_ : Aside0 (Below w.heap.size w w10) := ⟨(HB.out.trans (hk.below HB.out.size (fun k h => by have := HN.out; omega)))⟩; have n1_ : Aside0 (Kd.R k30 30 w10 0 (fun k => N4 ≤ k ∧ k < N5) (.slice (some ad) l.length bc) l) := ⟨(hk.R HLR.out (fun k h1 h2 => by have := HN.out; omega))⟩; have n2_ : Aside0 (N5 ≤ w10.heap.size) := ⟨(Nat.le_trans HM.out hk.size)⟩; have n3_ : Aside0 (QS w10 (fun k => k < N1 ∨ N3 ≤ k ∧ k < N4) q p.1 ys p.1.length) := ⟨(hk.qs HQ.out (fun k h1 h2 => by have := HN.out; omega))⟩; have n4_ : Aside0 (QS w10 (fun k => N1 ≤ k ∧ k < N2 ∨ N5 ≤ k) pq (putL (putL Lp x (wrap64 (n + 1))) x n) [] (800 - 2 * j)) := ⟨hq.grow (by have := HI.out.2.1; have := HL0.out; omega)⟩; clear HB HLR HM HQ HPQ; have HB := n0_; have HLR := n1_; have HM := n2_; have HQ := n3_; have HPQ := n4_; clear n0_ n1_ n2_ n3_ n4_; clear hq hk; obtain ⟨hx0, hx1, hx2⟩ := el30 (Kd.R_reads' HLR.out).2.2 x8 HX0.out HX1.out HRD.out))
          go_roundg (j + 1)
          case measure => have := HGG.out; omega
          case rel =>
            have he : wrap64 (x8 - 1) = (j : Int) - 1 := by have := HXJ.out; have := HJL.out; have := HL0.out; rw [w64 (by omega) (by omega)]; omega
            refine ⟨wrap64 (x8 - 1), j, _, rfl, Nat.le_refl _, ⟨he, Nat.le_of_lt HJL.out, ?_, Rest.step HI.out.2.2.2 HDR.out HNX.out⟩, HPQ, HQ, HB, HLR, HM⟩
            have h1 : (putL (putL Lp x (wrap64 (n + 1))) x n).length = (putL Lp x (wrap64 (n + 1))).length := by rw [putL_length, look_put_same]; rfl
            have h2 := putL_len_le Lp x (wrap64 (n + 1))
            have := HI.out.2.2.1
            omega
        · have c2b : decide (0 ≤ x8) = false := decide_eq_false c2
          obtain rfl : i = 0 := by have := HI.out.1; omega
          clear c2
          have HLB : Aside0 (Lp.length ≤ 1000000) := ⟨by have := HI.out.2.2.1; omega⟩
          have HSM : Aside0 (cellsOf Lp ys = l) := ⟨by rw [← HCL.out]; refine Rest.full HPQ.out.uniq HQ.out.uniq ?_; rw [HCL.out]; exact HI.out.2.2.2⟩
          obtain ⟨kc, hkc⟩ := cells_same l (Nat.le_trans HL0.out (by decide))
          have HKC := Aside0.mk hkc
          clear hkc
          go_wp2_with (first | (at_builtin; (refine Kd.R_append_rows k46 (Rr := k46.K wr) (w0 := wr) (W := (wr.alloc (.cells #[] 46))) 0 rfl (.tmp 62) (.tmp 63) 39 46 (.agg #[.int .i64 0, .int .i64 0, .int .i64 0, .int .i64 0, .int .i64 0]) 40 rfl Try.underlying39 info46 rfl (by decide) (by omega) (.slice (some ⟨wr.heap.size, 0, none⟩) 0 0) [] ys A1 ys.length c1 (fun k => wr.heap.size ≤ k) (fun _ => False) rfl rfl (R_empty wr _ (Nat.le_refl _)) (Kd.C_alloc (Kd.C_below HC2.out HB.out) _) ?hkm (fun _ hk => hk.elim) (fun k hk => ?hfr) ((Below.refl 0 wr).alloc (Nat.zero_le _) _) (Nat.zero_le _) (by have := HY.out; simp; omega) ?_); (case hkm => intro x cs hx; obtain rfl := k46_open hx; exact k46_mkM _ _ _ x); (case hfr => exact Nat.le_trans (Nat.le_of_lt (by simp)) hk); intro v1 w8 hR hb hg hat; have hb_ : Below wr.heap.size wr w8 := (below_alloc (Below.refl _ _) _).grown hg (by simp) (fun k hk => by simp [Value.ownBlock] at hk; omega); have HR1 : Aside0 (Kd.R k46 46 w8 0 (fun k => wr.heap.size ≤ k) v1 ys) := ⟨hR⟩; clear hR hb hg hat; obtain ⟨B1, bc1, ev⟩ := Kd.R_slice HR1.out; subst ev; have n0_ : Aside0 (Below w.heap.size w w8) := ⟨(below_step HB.out hb_)⟩; have n1_ : Aside0 (Kd.R k30 30 w8 0 (fun k => N4 ≤ k ∧ k < N5) (.slice B l.length bc) l) := ⟨(Kd.R_below HLR.out hb_)⟩; have n2_ : Aside0 (N5 ≤ w8.heap.size) := ⟨(Nat.le_trans HM.out hb_.size)⟩; have n3_ : Aside0 (QS w8 (fun k => N1 ≤ k ∧ k < N2 ∨ N5 ≤ k) pq Lp [] (800 - 2 * 0)) := ⟨(QS.below HPQ.out hb_)⟩; clear HB HLR HM HPQ; have HB := n0_; have HLR := n1_; have HM := n2_; have HPQ := n3_; clear n0_ n1_ n2_ n3_; clear hb_) | (go_at_call 20; (with_reducible refine (QS.see HPQ.out B1 ys.length bc1 ys (Kd.R_reads' HR1.out).2.2 HY6.out HLB.out).mono ?_); rintro e w9 ⟨rfl, hq, hk⟩; replace hq := hq.mono (F2 := (fun k => N1 ≤ k ∧ k < N2 ∨ N5 ≤ k)) (fun k hk => hk.elim id (fun h => .inr (Nat.le_trans HM.out h))); have n0_ : Aside0 (Below w.heap.size w w9) := ⟨(HB.out.trans (hk.below HB.out.size (fun k h => by have := HN.out; omega)))⟩; have n1_ : Aside0 (Kd.R k30 30 w9 0 (fun k => N4 ≤ k ∧ k < N5) (.slice B l.length bc) l) := ⟨(hk.R HLR.out (fun k h1 h2 => by have := HN.out; omega))⟩; have n2_ : Aside0 (N5 ≤ w9.heap.size) := ⟨(Nat.le_trans HM.out hk.size)⟩; have n3_ : Aside0 (QS w9 (fun k => N1 ≤ k ∧ k < N2 ∨ N5 ≤ k) pq Lp ys (Lp.length)) := ⟨hq⟩; clear HB HLR HM HPQ; have HB := n0_; have HLR := n1_; have HM := n2_; have HPQ := n3_; clear n0_ n1_ n2_ n3_; clear hq hk HR1) | (go_at_call 11; (with_reducible refine (QS.cells HPQ.out HLB.out HY6.out).mono ?_); rintro e w10 hcp; obtain ⟨v, rfl, hR, hb⟩ := hcp; obtain ⟨B2, bc2, ev⟩ := Kd.R_slice hR; subst ev; rw [HSM.out] at hR ⊢; have n0_ : Aside0 (Below w.heap.size w w10) := ⟨(below_step HB.out hb)⟩; have n1_ : Aside0 (Kd.R k30 30 w10 0 (fun k => N4 ≤ k ∧ k < N5) (.slice B l.length bc) l) := ⟨(Kd.R_below HLR.out hb)⟩; have n2_ : Aside0 (N5 ≤ w10.heap.size) := ⟨(Nat.le_trans HM.out hb.size)⟩; have n3_ : Aside0 (QS w10 (fun k => N1 ≤ k ∧ k < N2 ∨ N5 ≤ k) pq Lp ys (Lp.length)) := ⟨(QS.below HPQ.out hb)⟩; clear HB HLR HM HPQ; have HB := n0_; have HLR := n1_; have HM := n2_; have HPQ := n3_; clear n0_ n1_ n2_ n3_; have HR2 := Aside0.mk hR; clear hR hb) | (go_at_call 15; (with_reducible refine (whittlelaw14_cells.calls kc B2 bc2 l B bc l true _ (Kd.R_reads' HR2.out).2.2 (Kd.R_reads' HR2.out).2.1 (Kd.R_reads' HLR.out).2.2 (Kd.R_reads' HLR.out).2.1 HKC.out).mono ?_); rintro e w11 ⟨rfl, hd⟩; have n0_ : Aside0 (Below w.heap.size w w11) := ⟨below_step HB.out hd.below⟩; clear hd HB; have HB := n0_; clear n0_))
          go_ret
          exact ⟨rfl, HB.out⟩
end Go.Proofs.Ytgkbcgmcpbbneaa.Q
