/- The walk of QueueDrains. -/
import Derived.Test.YtgkbcgmcpbbneaaPlb
namespace Go.Proofs.Ytgkbcgmcpbbneaa.Q
open Go Go.RowKit Go.Maps Go.Proofs.YtgkbcgmcpbbneaaW.PrintWords Go.Proofs.YtgkbcgmcpbbneaaW.PrintLast Go.Proofs.YtgkbcgmcpbbneaaW.PrintMore
set_option maxRecDepth 100000
set_option linter.unusedVariables false
set_option linter.unusedSimpArgs false
attribute [local go_sem high] eqA30

set_option maxHeartbeats 8000000 in
theorem drains_contract (w : World) (A : Option Addr) (c : Nat) (xs : List S43) (hC : Kd.C k43 w A xs.length xs) (hc : xs.length ≤ c) (hh : NotHuge xs) (hw : ∀ a ∈ xs, WfA a) :
    Calls Try.prog 3 #[.slice A xs.length c] w fun e w' => e = .returned (.bool true) ∧ Below w.heap.size w w' := by
  have hu30 := Try.underlying30
  have hu27 := Try.underlying27
  have hu39 := Try.underlying39
  obtain ⟨km, bm, hmu, hfew⟩ := much_ok xs hh
  obtain ⟨p, hp⟩ : ∃ p, runP xs = p := ⟨_, rfl⟩
  have HP := Aside0.mk hp
  have HMU := Aside0.mk hmu
  have HC := Aside0.mk hC
  have HCC := Aside0.mk hc
  have HWA := Aside0.mk hw
  clear hC hc hh hw hp hmu
  cases bm with
  | true =>
    go_enter Try.func3, Try.ntmps3
    go_wp2_with (first | (go_at_call 8; (with_reducible refine (able_calls _).mono ?_); rintro e w1 ⟨rfl, hb⟩; have HB := Aside0.mk hb; clear hb) | (go_at_call 9; (with_reducible refine (whittlelaw14_much.calls km A c xs _ w1 (Kd.C_below HC.out HB.out) HCC.out HMU.out).mono ?_); rintro e w2 ⟨rfl, hd⟩; have n0_ : Aside0 (Below w.heap.size w w2) := ⟨below_step HB.out hd.below⟩; clear HB hd; have HB := n0_; clear n0_))
    go_ret
    exact ⟨rfl, HB.out⟩
  | false =>
    have HFW : Aside0 (Few xs) := ⟨hfew rfl⟩
    clear hfew
    have HPL : Aside0 (p.1.length ≤ 1000000) := ⟨by have := runP_len xs; have := HFW.out.1; rw [← HP.out]; omega⟩
    have HP4 : Aside0 (p.1.length ≤ 400) := ⟨by have := runP_len xs; have := HFW.out.1; rw [← HP.out]; omega⟩
    have HSN : Aside0 (p.2.length ≤ 1000000) := ⟨by have := runP_seen HFW.out; rw [← HP.out]; omega⟩
    have HS4 : Aside0 (p.2.length ≤ 400) := ⟨by have := runP_seen HFW.out; rw [← HP.out]; omega⟩
    have HM4 : Aside0 (400 ≤ 1000000) := ⟨by omega⟩
    go_enter Try.func3, Try.ntmps3
    go_wp2_with (first | (go_at_call 8; (with_reducible refine (able_calls _).mono ?_); rintro e w1 ⟨rfl, hb⟩; have HB := Aside0.mk hb; clear hb) | (go_at_call 9; (with_reducible refine (whittlelaw14_much.calls km A c xs _ w1 (Kd.C_below HC.out HB.out) HCC.out HMU.out).mono ?_); rintro e w2 ⟨rfl, hd⟩; have n0_ : Aside0 (Below w.heap.size w w2) := ⟨below_step HB.out hd.below⟩; clear HB hd; have HB := n0_; clear n0_) | (go_at_call 10; (with_reducible refine (made_calls _ A c xs (Kd.C_below HC.out HB.out) HFW.out HWA.out).mono ?_); rintro e w3 ⟨q, rfl, hq, hb⟩; have n0_ : Aside0 (Below w.heap.size w w3) := ⟨below_step HB.out hb⟩; have HQ : Aside0 (QS w3 (fun k => w.heap.size ≤ k ∧ k < w3.heap.size) q p.1 p.2 400) := ⟨by rw [← HP.out]; exact (QS.bound hq).mono (fun k hk => ⟨Nat.le_trans HB.out.size hk.1, hk.2⟩)⟩; clear HB hq hb; have HB := n0_; clear n0_) | (go_at_call 11; (with_reducible refine (QS.cells HQ.out HPL.out HSN.out).mono ?_); rintro e w4 hcp; obtain ⟨v, rfl, hR, hb⟩ := hcp; obtain ⟨B, bc, ev⟩ := Kd.R_slice hR; subst ev; have n0_ : Aside0 (Below w.heap.size w w4) := ⟨below_step HB.out hb⟩; have n1_ : Aside0 (QS w4 (fun k => w.heap.size ≤ k ∧ k < w3.heap.size) q p.1 p.2 400) := ⟨QS.below HQ.out hb⟩; have HLR := Aside0.mk hR; have HM : Aside0 (w3.heap.size ≤ w4.heap.size) := ⟨hb.size⟩; clear HB HQ hR hb; have HB := n0_; have HQ := n1_; clear n0_ n1_))
    generalize w3.heap.size = M at HQ HLR HM
    obtain ⟨l, hl⟩ : ∃ l, cellsOf p.1 p.2 = l := ⟨_, rfl⟩
    have HL0 : Aside0 (l.length ≤ 400 ∧ p.1.length = l.length) := ⟨by rw [← hl, cellsOf_length]; exact ⟨HP4.out, rfl⟩⟩
    have HCL := Aside0.mk hl
    rw [hl] at HLR ⊢
    clear hl
    go_loopg [5] (l.length + 1) (fun gg v5 wr => ∃ (x5 : Int) (i : Nat) (Li : List Wt), v5 = .int .i64 x5 ∧ l.length - i + 1 ≤ gg ∧ Aside0 (x5 = (i : Int) ∧ i ≤ l.length ∧ cellsOf Li p.2 = l.drop i ∧ Li.length + i = l.length) ∧ Aside0 (QS wr (fun k => w.heap.size ≤ k ∧ k < M) q Li p.2 400) ∧ Aside0 (Below w.heap.size w wr) ∧ Aside0 (Kd.R k30 30 wr 0 (fun k => M ≤ k) (.slice B l.length bc) l) ∧ Aside0 (M ≤ wr.heap.size))
    case atStart => exact ⟨0, 0, p.1, rfl, by omega, ⟨rfl, Nat.zero_le _, by rw [HCL.out]; rfl, by rw [HL0.out.2]; rfl⟩, HQ, HB, HLR, HM⟩
    case round =>
      clear HQ HB HLR HM
      obtain ⟨x5, i, Li, rfl, hgg, HI, HQ, HB, HLR, HM⟩ := hrel
      have HGG := Aside0.mk hgg
      clear hgg
      by_cases c2 : x5 < (l.length : Int)
      · have c2b : decide (x5 < (l.length : Int)) = true := decide_eq_true c2
        have c3 : 0 ≤ x5 := by have := HI.out.1; omega
        have c3b : decide (0 ≤ x5) = true := decide_eq_true c3
        have hil : i < l.length := by have := HI.out.1; omega
        have hrd : rd_T30 l x5 = l[i] := by rw [HI.out.1]; exact rd30 l i hil
        have hcx : cellsOf Li p.2 = rd_T30 l x5 :: l.drop (i + 1) := by rw [HI.out.2.2.1, hrd]; exact List.drop_eq_getElem_cons hil
        obtain ⟨x, hx⟩ : ∃ x, rd_T30 l x5 = x := ⟨_, rfl⟩
        rw [hx] at hcx
        have HRD := Aside0.mk hx
        have HCX := Aside0.mk hcx
        have HX0 := Aside0.mk c3
        have HX1 := Aside0.mk c2
        have HIL := Aside0.mk hil
        have HD : Aside0 (headC (cellsOf Li p.2) = (x, true)) := ⟨headC_cons hcx⟩
        have hmx : x ∈ cellsOf Li p.2 := by rw [hcx]; exact List.mem_cons_self ..
        have HWX : Aside0 (Wc x) := ⟨cellsOf_wc HQ.out.wf hmx⟩
        have HS1 : Aside0 ((look Li x).isSome = true) := ⟨cellsOf_mem hmx⟩
        have HS2 : Aside0 ((look (dropL Li x) x).isSome = false) := ⟨by rw [look_drop_same]; rfl⟩
        have HDD : Aside0 (dropL (dropL Li x) x = dropL Li x) := ⟨dropL_none (look_drop_same _ _)⟩
        have HUL : Aside0 (Uniq Li) := ⟨HQ.out.uniq⟩
        have HDL : Aside0 ((dropL Li x).length + 1 = Li.length) := ⟨dropL_some_len HUL.out HS1.out⟩
        have HZ : Aside0 (((dropL (dropL Li x) x).length : Int) = wrap64 (wrap64 ((l.length : Int) - x5) - 1)) := ⟨by have h1 := HI.out; have h2 := HDL.out; have h3 := HL0.out; rw [HDD.out, w64 (x := (l.length : Int) - x5) (by omega) (by omega), w64 (by omega) (by omega)]; omega⟩
        obtain ⟨ad, hA, _⟩ := at_T30 (Kd.R_reads' HLR.out).2.2 x5 c3 c2
        cases hA
        have c2t := eq_true c2
        have c3t := eq_true c3
        clear hmx hcx hrd hil hx c2 c3
        go_wp2_with (first | (go_at_call 12; (with_reducible refine (QS.first HQ.out HM4.out HSN.out x true HD.out).mono ?_); rintro e w5 ⟨rfl, hq, hk⟩; have n0_ : Aside0 (Below w.heap.size w w5) := ⟨(HB.out.trans (hk.below HB.out.size (fun k h => h.1)))⟩; have n1_ : Aside0 (Kd.R k30 30 w5 0 (fun k => M ≤ k) (.slice (some ad) l.length bc) l) := ⟨(hk.R HLR.out (fun k h1 h2 => Nat.not_lt.2 h1 h2.2))⟩; have n2_ : Aside0 (M ≤ w5.heap.size) := ⟨(Nat.le_trans HM.out hk.size)⟩; have n3_ : Aside0 (QS w5 (fun k => w.heap.size ≤ k ∧ k < M) q Li p.2 400) := ⟨hq⟩; clear HB HLR HM HQ; have HB := n0_; have HLR := n1_; have HM := n2_; have HQ := n3_; clear n0_ n1_ n2_ n3_; clear hq hk) | ((with_reducible refine gate_dst (N := 6) rfl ?_); refine box_event ?hg (N := 6) ?hd (cs := #[(.int .i64 0), (.int .i64 0), (.int .i64 0)]) (t := 30) ?hr ?_; (case hd => rfl); (case hg => rfl); (case hr => first | (go_simp; done) | (go_simp; rfl)); intro gc hgx w6 hbox hb; have HBX := Aside0.mk hb; have GEX : Aside0 (w5.heap.size ≤ gc) := ⟨by rw [hgx]; exact Nat.le_refl _⟩; have BKX := Aside0.mk hbox; clear hbox hb hgx; have hzx0 : w6.cell? ⟨gc, 0, none⟩ = some (.int .i64 0) := (blk_cell BKX.out 0).trans rfl; have hzx1 : w6.cell? ⟨gc, 1, none⟩ = some (.int .i64 0) := (blk_cell BKX.out 1).trans rfl; have hzx2 : w6.cell? ⟨gc, 2, none⟩ = some (.int .i64 0) := (blk_cell BKX.out 2).trans rfl; have hzf0 := blk_frozen BKX.out 0; have hzf1 := blk_frozen BKX.out 1; have hzf2 := blk_frozen BKX.out 2; have GEgc : Aside0 (M ≤ gc) := ⟨Nat.le_trans HM.out GEX.out⟩))
        clear hzx0 hzf0 hzx1 hzf1 hzx2 hzf2
        have hbw : Below w5.heap.size w5 (((w6.setCell ⟨gc, 0, none⟩ (.int .i64 x.f0)).setCell ⟨gc, 1, none⟩ (.int .i64 x.f1)).setCell ⟨gc, 2, none⟩ (.int .i64 x.f2)) := below_set (below_set (below_set (HBX.out) GEX.out) GEX.out) GEX.out
        have n0_ : Aside0 (Below w.heap.size w (((w6.setCell ⟨gc, 0, none⟩ (.int .i64 x.f0)).setCell ⟨gc, 1, none⟩ (.int .i64 x.f1)).setCell ⟨gc, 2, none⟩ (.int .i64 x.f2))) := ⟨(below_step HB.out hbw)⟩
        have n1_ : Aside0 (Kd.R k30 30 (((w6.setCell ⟨gc, 0, none⟩ (.int .i64 x.f0)).setCell ⟨gc, 1, none⟩ (.int .i64 x.f1)).setCell ⟨gc, 2, none⟩ (.int .i64 x.f2)) 0 (fun k => M ≤ k) (.slice (some ad) l.length bc) l) := ⟨(Kd.R_below HLR.out hbw)⟩
        have n2_ : Aside0 (M ≤ (((w6.setCell ⟨gc, 0, none⟩ (.int .i64 x.f0)).setCell ⟨gc, 1, none⟩ (.int .i64 x.f1)).setCell ⟨gc, 2, none⟩ (.int .i64 x.f2)).heap.size) := ⟨(Nat.le_trans HM.out hbw.size)⟩
        have n3_ : Aside0 (QS (((w6.setCell ⟨gc, 0, none⟩ (.int .i64 x.f0)).setCell ⟨gc, 1, none⟩ (.int .i64 x.f1)).setCell ⟨gc, 2, none⟩ (.int .i64 x.f2)) (fun k => w.heap.size ≤ k ∧ k < M) q Li p.2 400) := ⟨(QS.below HQ.out hbw)⟩
        clear HB HLR HM HQ
        have HB := n0_
        have HLR := n1_
        have HM := n2_
        have HQ := n3_
        clear n0_ n1_ n2_ n3_
        have BKgc : Aside0 ((((w6.setCell ⟨gc, 0, none⟩ (.int .i64 x.f0)).setCell ⟨gc, 1, none⟩ (.int .i64 x.f1)).setCell ⟨gc, 2, none⟩ (.int .i64 x.f2)).heap[gc]? = some (.cells #[(.int .i64 x.f0), (.int .i64 x.f1), (.int .i64 x.f2)] 30 (0, 0))) := ⟨by refine blk_put (cs := #[(.int .i64 x.f0), (.int .i64 x.f1), (.int .i64 0)]) ?_ 2 _ rfl; refine blk_put (cs := #[(.int .i64 x.f0), (.int .i64 0), (.int .i64 0)]) ?_ 1 _ rfl; refine blk_put (cs := #[(.int .i64 0), (.int .i64 0), (.int .i64 0)]) ?_ 0 _ rfl; exact BKX.out⟩
        clear hbw BKX HBX GEX
        generalize (((w6.setCell ⟨gc, 0, none⟩ (.int .i64 x.f0)).setCell ⟨gc, 1, none⟩ (.int .i64 x.f1)).setCell ⟨gc, 2, none⟩ (.int .i64 x.f2)) = w7 at HB HLR HM HQ BKgc ⊢
        refine start_ (n := 31) (S := fun w' => w'.cell? ⟨gc, 0, none⟩ = some (.int .i64 x.f0) ∧ w'.cell? ⟨gc, 1, none⟩ = some (.int .i64 x.f1) ∧ w'.cell? ⟨gc, 2, none⟩ = some (.int .i64 x.f2) ∧ w'.cell? (ad.add (x5.toNat * 3)) = some (.int .i64 x.f0) ∧ w'.cell? ⟨(ad.add (x5.toNat * 3)).block, (ad.add (x5.toNat * 3)).off + 1, none⟩ = some (.int .i64 x.f1) ∧ w'.cell? ⟨(ad.add (x5.toNat * 3)).block, (ad.add (x5.toNat * 3)).off + 2, none⟩ = some (.int .i64 x.f2)) (ds := [23]) #[false, false, false, false, false, false, false, false, false, false, false, false, false, false, false, false, false, false, false, false, false, false, false, false, false, false, false, false, false, false, false] (by kernel_rfl) rfl rfl ⟨(blk_cell BKgc.out 0).trans rfl, (blk_cell BKgc.out 1).trans rfl, (blk_cell BKgc.out 2).trans rfl, (el30 (Kd.R_reads' HLR.out).2.2 x5 HX0.out HX1.out HRD.out).1, (el30 (Kd.R_reads' HLR.out).2.2 x5 HX0.out HX1.out HRD.out).2.1, (el30 (Kd.R_reads' HLR.out).2.2 x5 HX0.out HX1.out HRD.out).2.2⟩ (fun hHeld => ?_)
        refine pure_ (i := 0) (N := some 29) (v := ?_) (a' := ?_) #[true, false, false, false, false, false, false, false, false, false, false, false, false, false, false, false, false, false, false, false, false, false, false, false, false, false, false, false, false, false, false] rfl rfl (by kernel_rfl) (fun _ _ _ h => h) (Or.inl ⟨by rfl, ?_⟩) ?_ ?_
        rotate_left
        · intro w'
          go_simp
          with_reducible rfl
        rotate_left
        · simp only [Act.put, List.setIfInBounds_toArray, List.set_cons_zero, List.set_cons_succ, i64_w, i32_w]
          rfl
        refine pure_ (i := 1) (N := some 30) (v := ?_) (a' := ?_) #[true, true, false, false, false, false, false, false, false, false, false, false, false, false, false, false, false, false, false, false, false, false, false, false, false, false, false, false, false, false, false] rfl rfl (by kernel_rfl) (fun _ _ _ h => h) (Or.inl ⟨by rfl, ?_⟩) ?_ ?_
        rotate_left
        · intro w'
          go_simp
          with_reducible rfl
        rotate_left
        · simp only [Act.put, List.setIfInBounds_toArray, List.set_cons_zero, List.set_cons_succ, i64_w, i32_w]
          rfl
        refine pure_ (i := 2) (N := some 31) (v := ?_) (a' := ?_) #[true, true, true, false, false, false, false, false, false, false, false, false, false, false, false, false, false, false, false, false, false, false, false, false, false, false, false, false, false, false, false] rfl rfl (by kernel_rfl) (fun _ _ _ h => h) (Or.inl ⟨by rfl, ?_⟩) ?_ ?_
        rotate_left
        · intro w'
          go_simp
          with_reducible rfl
        rotate_left
        · simp only [Act.put, List.setIfInBounds_toArray, List.set_cons_zero, List.set_cons_succ, i64_w, i32_w]
          rfl
        refine pure_ (i := 4) (N := some 33) (v := ?_) (a' := ?_) #[true, true, true, false, true, false, false, false, false, false, false, false, false, false, false, false, false, false, false, false, false, false, false, false, false, false, false, false, false, false, false] rfl rfl (by kernel_rfl) (fun _ _ _ h => h) (Or.inl ⟨by rfl, ?_⟩) ?_ ?_
        rotate_left
        · intro w'
          go_simp
          with_reducible rfl
        rotate_left
        · simp only [Act.put, List.setIfInBounds_toArray, List.set_cons_zero, List.set_cons_succ, i64_w, i32_w]
          rfl
        refine pure_ (i := 5) (N := some 34) (v := ?_) (a' := ?_) #[true, true, true, false, true, true, false, false, false, false, false, false, false, false, false, false, false, false, false, false, false, false, false, false, false, false, false, false, false, false, false] rfl rfl (by kernel_rfl) (fun _ _ _ h => h) (Or.inl ⟨by rfl, ?_⟩) ?_ ?_
        rotate_left
        · intro w'
          go_simp
          with_reducible rfl
        rotate_left
        · simp only [Act.put, List.setIfInBounds_toArray, List.set_cons_zero, List.set_cons_succ, i64_w, i32_w]
          rfl
        refine pure_ (i := 6) (N := some 35) (v := ?_) (a' := ?_) #[true, true, true, false, true, true, true, false, false, false, false, false, false, false, false, false, false, false, false, false, false, false, false, false, false, false, false, false, false, false, false] rfl rfl (by kernel_rfl) (fun _ _ _ h => h) (Or.inl ⟨by rfl, ?_⟩) ?_ ?_
        rotate_left
        · intro w'
          go_simp
          with_reducible rfl
        rotate_left
        · simp only [Act.put, List.setIfInBounds_toArray, List.set_cons_zero, List.set_cons_succ, i64_w, i32_w]
          rfl
        refine take_ (i := 3) (N := some 32) (v := ?_) (a' := ?_) #[true, true, true, true, true, true, true, false, false, false, false, false, false, false, false, false, false, false, false, false, false, false, false, false, false, false, false, false, false, false, false] rfl rfl (by kernel_rfl) (fun _ _ _ h => h) (Or.inl ⟨by rfl, ?_⟩) hHeld ?_ ?_
        rotate_left
        · rintro w' ⟨s0, s1, s2, s3, s4, s5⟩
          go_simp
          with_reducible rfl
        rotate_left
        · simp only [Act.put, List.setIfInBounds_toArray, List.set_cons_zero, List.set_cons_succ, i64_w, i32_w]
          rfl
        refine take_ (i := 7) (N := some 36) (v := ?_) (a' := ?_) #[true, true, true, true, true, true, true, true, false, false, false, false, false, false, false, false, false, false, false, false, false, false, false, false, false, false, false, false, false, false, false] rfl rfl (by kernel_rfl) (fun _ _ _ h => h) (Or.inl ⟨by rfl, ?_⟩) hHeld ?_ ?_
        rotate_left
        · rintro w' ⟨s0, s1, s2, s3, s4, s5⟩
          go_simp
          with_reducible rfl
        rotate_left
        · simp only [Act.put, List.setIfInBounds_toArray, List.set_cons_zero, List.set_cons_succ, i64_w, i32_w]
          rfl
        refine pure_ (i := 8) (N := some 37) (v := ?_) (a' := ?_) #[true, true, true, true, true, true, true, true, true, false, false, false, false, false, false, false, false, false, false, false, false, false, false, false, false, false, false, false, false, false, false] rfl rfl (by kernel_rfl) (fun _ _ _ h => h) (Or.inl ⟨by rfl, ?_⟩) ?_ ?_
        rotate_left
        · intro w'
          go_simp
          with_reducible rfl
        rotate_left
        · simp only [Act.put, List.setIfInBounds_toArray, List.set_cons_zero, List.set_cons_succ, i64_w, i32_w]
          rfl
        refine pure_ (i := 9) (N := some 38) (v := ?_) (a' := ?_) #[true, true, true, true, true, true, true, true, true, true, false, false, false, false, false, false, false, false, false, false, false, false, false, false, false, false, false, false, false, false, false] rfl rfl (by kernel_rfl) (fun _ _ _ h => h) (Or.inl ⟨by rfl, ?_⟩) ?_ ?_
        rotate_left
        · intro w'
          go_simp
          with_reducible rfl
        rotate_left
        · simp only [Act.put, List.setIfInBounds_toArray, List.set_cons_zero, List.set_cons_succ, i64_w, i32_w]
          rfl
        refine pure_ (i := 10) (N := some 39) (v := ?_) (a' := ?_) #[true, true, true, true, true, true, true, true, true, true, true, false, false, false, false, false, false, false, false, false, false, false, false, false, false, false, false, false, false, false, false] rfl rfl (by kernel_rfl) (fun _ _ _ h => h) (Or.inl ⟨by rfl, ?_⟩) ?_ ?_
        rotate_left
        · intro w'
          go_simp
          with_reducible rfl
        rotate_left
        · simp only [Act.put, List.setIfInBounds_toArray, List.set_cons_zero, List.set_cons_succ, i64_w, i32_w]
          rfl
        refine pure_ (i := 11) (N := some 40) (v := ?_) (a' := ?_) #[true, true, true, true, true, true, true, true, true, true, true, true, false, false, false, false, false, false, false, false, false, false, false, false, false, false, false, false, false, false, false] rfl rfl (by kernel_rfl) (fun _ _ _ h => h) (Or.inl ⟨by rfl, ?_⟩) ?_ ?_
        rotate_left
        · intro w'
          go_simp
          with_reducible rfl
        rotate_left
        · simp only [Act.put, List.setIfInBounds_toArray, List.set_cons_zero, List.set_cons_succ, i64_w, i32_w]
          rfl
        refine take_ (i := 12) (N := some 41) (v := ?_) (a' := ?_) #[true, true, true, true, true, true, true, true, true, true, true, true, true, false, false, false, false, false, false, false, false, false, false, false, false, false, false, false, false, false, false] rfl rfl (by kernel_rfl) (fun _ _ _ h => h) (Or.inl ⟨by rfl, ?_⟩) hHeld ?_ ?_
        rotate_left
        · rintro w' ⟨s0, s1, s2, s3, s4, s5⟩
          go_simp
          with_reducible rfl
        rotate_left
        · simp only [Act.put, List.setIfInBounds_toArray, List.set_cons_zero, List.set_cons_succ, i64_w, i32_w]
          rfl
        refine one_ (i := 13) (N := some 42) #[true, true, true, true, true, true, true, true, true, true, true, true, true, true, false, false, false, false, false, false, false, false, false, false, false, false, false, false, false, false, false] rfl rfl (by kernel_rfl) (by decide) (fun K hK => ?_)
        have n0_ : Aside0 (Below w.heap.size w w7.drew) := ⟨(below_step HB.out (below_drew1 (Below.refl w7.heap.size w7)))⟩
        have n1_ : Aside0 (Kd.R k30 30 w7.drew 0 (fun k => M ≤ k) (.slice (some ad) l.length bc) l) := ⟨(Kd.R_below HLR.out (below_drew1 (Below.refl w7.heap.size w7)))⟩
        have n2_ : Aside0 (M ≤ w7.drew.heap.size) := ⟨(Nat.le_trans HM.out (below_drew1 (Below.refl w7.heap.size w7)).size)⟩
        have n3_ : Aside0 (QS w7.drew (fun k => w.heap.size ≤ k ∧ k < M) q Li p.2 400) := ⟨(QS.below HQ.out (below_drew1 (Below.refl w7.heap.size w7)))⟩
        have n4_ : Aside0 (w7.drew.heap[gc]? = some (.cells #[(.int .i64 x.f0), (.int .i64 x.f1), (.int .i64 x.f2)] 30 (0, 0))) := ⟨(blk_below BKgc.out (below_drew1 (Below.refl w7.heap.size w7)))⟩
        clear HB HLR HM HQ BKgc
        have HB := n0_
        have HLR := n1_
        have HM := n2_
        have HQ := n3_
        have BKgc := n4_
        clear n0_ n1_ n2_ n3_ n4_
        refine goes_ Try.func13 (by kernel_rfl) rfl #[.pointer (some ⟨q, 0, none⟩), .agg #[.int .i64 x.f0, .int .i64 x.f1, .int .i64 x.f2]] (by rfl) rfl rfl (by simp only [List.map_toArray, List.map_cons, List.map_nil]; rfl) ?_
        with_reducible refine (QS.drop_b HQ.out x HWX.out true HS1.out).mono ?_
        rintro e w8 ⟨rfl, hq, hk⟩
        refine ⟨_, rfl, ?_⟩
        have n0_ : Aside0 (Below w.heap.size w w8) := ⟨(HB.out.trans (hk.below HB.out.size (fun k h => h.1)))⟩
        have n1_ : Aside0 (Kd.R k30 30 w8 0 (fun k => M ≤ k) (.slice (some ad) l.length bc) l) := ⟨(hk.R HLR.out (fun k h1 h2 => Nat.not_lt.2 h1 h2.2))⟩
        have n2_ : Aside0 (M ≤ w8.heap.size) := ⟨(Nat.le_trans HM.out hk.size)⟩
        have n3_ : Aside0 (QS w8 (fun k => w.heap.size ≤ k ∧ k < M) q (dropL Li x) p.2 400) := ⟨hq⟩
        have n4_ : Aside0 (w8.heap[gc]? = some (.cells #[(.int .i64 x.f0), (.int .i64 x.f1), (.int .i64 x.f2)] 30 (0, 0))) := ⟨(hk.blk BKgc.out (fun h => Nat.not_lt.2 GEgc.out h.2))⟩
        clear HB HLR HM HQ BKgc
        have HB := n0_
        have HLR := n1_
        have HM := n2_
        have HQ := n3_
        have BKgc := n4_
        clear n0_ n1_ n2_ n3_ n4_
        clear hq hk
        refine hK.out _ _ ⟨(blk_cell BKgc.out 0).trans rfl, (blk_cell BKgc.out 1).trans rfl, (blk_cell BKgc.out 2).trans rfl, (el30 (Kd.R_reads' HLR.out).2.2 x5 HX0.out HX1.out HRD.out).1, (el30 (Kd.R_reads' HLR.out).2.2 x5 HX0.out HX1.out HRD.out).2.1, (el30 (Kd.R_reads' HLR.out).2.2 x5 HX0.out HX1.out HRD.out).2.2⟩ (fun hHeld => ?_)
        clear hK K
        refine norm_ (a' := ?_) ?_ ?_
        rotate_left
        · show Act.put _ (some 42) _ = _
          simp only [Act.put, List.setIfInBounds_toArray, List.set_cons_zero, List.set_cons_succ, i64_w, i32_w]
          rfl
        refine pure_ (i := 14) (N := some 43) (v := ?_) (a' := ?_) #[true, true, true, true, true, true, true, true, true, true, true, true, true, true, true, false, false, false, false, false, false, false, false, false, false, false, false, false, false, false, false] rfl rfl (by kernel_rfl) (fun _ _ _ h => h) (Or.inl ⟨by rfl, ?_⟩) ?_ ?_
        rotate_left
        · intro w'
          go_simp
          with_reducible rfl
        rotate_left
        · simp only [Act.put, List.setIfInBounds_toArray, List.set_cons_zero, List.set_cons_succ, i64_w, i32_w]
          rfl
        refine pure_ (i := 15) (N := some 44) (v := ?_) (a' := ?_) #[true, true, true, true, true, true, true, true, true, true, true, true, true, true, true, true, false, false, false, false, false, false, false, false, false, false, false, false, false, false, false] rfl rfl (by kernel_rfl) (fun _ _ _ h => h) (Or.inl ⟨by rfl, ?_⟩) ?_ ?_
        rotate_left
        · intro w'
          go_simp
          with_reducible rfl
        rotate_left
        · simp only [Act.put, List.setIfInBounds_toArray, List.set_cons_zero, List.set_cons_succ, i64_w, i32_w]
          rfl
        refine pure_ (i := 16) (N := some 45) (v := ?_) (a' := ?_) #[true, true, true, true, true, true, true, true, true, true, true, true, true, true, true, true, true, false, false, false, false, false, false, false, false, false, false, false, false, false, false] rfl rfl (by kernel_rfl) (fun _ _ _ h => h) (Or.inl ⟨by rfl, ?_⟩) ?_ ?_
        rotate_left
        · intro w'
          go_simp
          with_reducible rfl
        rotate_left
        · simp only [Act.put, List.setIfInBounds_toArray, List.set_cons_zero, List.set_cons_succ, i64_w, i32_w]
          rfl
        refine pure_ (i := 17) (N := some 46) (v := ?_) (a' := ?_) #[true, true, true, true, true, true, true, true, true, true, true, true, true, true, true, true, true, true, false, false, false, false, false, false, false, false, false, false, false, false, false] rfl rfl (by kernel_rfl) (fun _ _ _ h => h) (Or.inl ⟨by rfl, ?_⟩) ?_ ?_
        rotate_left
        · intro w'
          go_simp
          with_reducible rfl
        rotate_left
        · simp only [Act.put, List.setIfInBounds_toArray, List.set_cons_zero, List.set_cons_succ, i64_w, i32_w]
          rfl
        refine take_ (i := 18) (N := some 47) (v := ?_) (a' := ?_) #[true, true, true, true, true, true, true, true, true, true, true, true, true, true, true, true, true, true, true, false, false, false, false, false, false, false, false, false, false, false, false] rfl rfl (by kernel_rfl) (fun _ _ _ h => h) (Or.inl ⟨by rfl, ?_⟩) hHeld ?_ ?_
        rotate_left
        · rintro w' ⟨s0, s1, s2, s3, s4, s5⟩
          go_simp
          with_reducible rfl
        rotate_left
        · simp only [Act.put, List.setIfInBounds_toArray, List.set_cons_zero, List.set_cons_succ, i64_w, i32_w]
          rfl
        refine one_ (i := 19) (N := some 48) #[true, true, true, true, true, true, true, true, true, true, true, true, true, true, true, true, true, true, true, true, false, false, false, false, false, false, false, false, false, false, false] rfl rfl (by kernel_rfl) (by decide) (fun K hK => ?_)
        refine goes_ Try.func13 (by kernel_rfl) rfl #[.pointer (some ⟨q, 0, none⟩), .agg #[.int .i64 x.f0, .int .i64 x.f1, .int .i64 x.f2]] (by rfl) rfl rfl (by simp only [List.map_toArray, List.map_cons, List.map_nil]; rfl) ?_
        with_reducible refine (QS.drop_b HQ.out x HWX.out false HS2.out).mono ?_
        rintro e w9 ⟨rfl, hq, hk⟩
        refine ⟨_, rfl, ?_⟩
        have n0_ : Aside0 (Below w.heap.size w w9) := ⟨(HB.out.trans (hk.below HB.out.size (fun k h => h.1)))⟩
        have n1_ : Aside0 (Kd.R k30 30 w9 0 (fun k => M ≤ k) (.slice (some ad) l.length bc) l) := ⟨(hk.R HLR.out (fun k h1 h2 => Nat.not_lt.2 h1 h2.2))⟩
        have n2_ : Aside0 (M ≤ w9.heap.size) := ⟨(Nat.le_trans HM.out hk.size)⟩
        have n3_ : Aside0 (QS w9 (fun k => w.heap.size ≤ k ∧ k < M) q (dropL (dropL Li x) x) p.2 400) := ⟨hq⟩
        have n4_ : Aside0 (w9.heap[gc]? = some (.cells #[(.int .i64 x.f0), (.int .i64 x.f1), (.int .i64 x.f2)] 30 (0, 0))) := ⟨(hk.blk BKgc.out (fun h => Nat.not_lt.2 GEgc.out h.2))⟩
        clear HB HLR HM HQ BKgc
        have HB := n0_
        have HLR := n1_
        have HM := n2_
        have HQ := n3_
        have BKgc := n4_
        clear n0_ n1_ n2_ n3_ n4_
        clear hq hk
        refine hK.out _ _ ⟨(blk_cell BKgc.out 0).trans rfl, (blk_cell BKgc.out 1).trans rfl, (blk_cell BKgc.out 2).trans rfl, (el30 (Kd.R_reads' HLR.out).2.2 x5 HX0.out HX1.out HRD.out).1, (el30 (Kd.R_reads' HLR.out).2.2 x5 HX0.out HX1.out HRD.out).2.1, (el30 (Kd.R_reads' HLR.out).2.2 x5 HX0.out HX1.out HRD.out).2.2⟩ (fun hHeld => ?_)
        clear hK K
        refine norm_ (a' := ?_) ?_ ?_
        rotate_left
        · show Act.put _ (some 48) _ = _
          simp only [Act.put, List.setIfInBounds_toArray, List.set_cons_zero, List.set_cons_succ, i64_w, i32_w]
          rfl
        refine pure_ (i := 20) (N := some 49) (v := ?_) (a' := ?_) #[true, true, true, true, true, true, true, true, true, true, true, true, true, true, true, true, true, true, true, true, true, false, false, false, false, false, false, false, false, false, false] rfl rfl (by kernel_rfl) (fun _ _ _ h => h) (Or.inl ⟨by rfl, ?_⟩) ?_ ?_
        rotate_left
        · intro w'
          go_simp
          with_reducible rfl
        rotate_left
        · simp only [Act.put, List.setIfInBounds_toArray, List.set_cons_zero, List.set_cons_succ, i64_w, i32_w]
          rfl
        refine pure_ (i := 21) (N := some 50) (v := ?_) (a' := ?_) #[true, true, true, true, true, true, true, true, true, true, true, true, true, true, true, true, true, true, true, true, true, true, false, false, false, false, false, false, false, false, false] rfl rfl (by kernel_rfl) (fun _ _ _ h => h) (Or.inl ⟨by rfl, ?_⟩) ?_ ?_
        rotate_left
        · intro w'
          go_simp
          with_reducible rfl
        rotate_left
        · simp only [Act.put, List.setIfInBounds_toArray, List.set_cons_zero, List.set_cons_succ, i64_w, i32_w]
          rfl
        refine pure_ (i := 22) (N := some 51) (v := ?_) (a' := ?_) #[true, true, true, true, true, true, true, true, true, true, true, true, true, true, true, true, true, true, true, true, true, true, true, false, false, false, false, false, false, false, false] rfl rfl (by kernel_rfl) (fun _ _ _ h => h) (Or.inl ⟨by rfl, ?_⟩) ?_ ?_
        rotate_left
        · intro w'
          go_simp
          with_reducible rfl
        rotate_left
        · simp only [Act.put, List.setIfInBounds_toArray, List.set_cons_zero, List.set_cons_succ, i64_w, i32_w]
          rfl
        refine pure_ (i := 24) (N := some 53) (v := ?_) (a' := ?_) #[true, true, true, true, true, true, true, true, true, true, true, true, true, true, true, true, true, true, true, true, true, true, true, false, true, false, false, false, false, false, false] rfl rfl (by kernel_rfl) (fun _ _ _ h => h) (Or.inl ⟨by rfl, ?_⟩) ?_ ?_
        rotate_left
        · intro w'
          go_simp
          with_reducible rfl
        rotate_left
        · simp only [Act.put, List.setIfInBounds_toArray, List.set_cons_zero, List.set_cons_succ, i64_w, i32_w]
          rfl
        refine pure_ (i := 25) (N := some 54) (v := ?_) (a' := ?_) #[true, true, true, true, true, true, true, true, true, true, true, true, true, true, true, true, true, true, true, true, true, true, true, false, true, true, false, false, false, false, false] rfl rfl (by kernel_rfl) (fun _ _ _ h => h) (Or.inl ⟨by rfl, ?_⟩) ?_ ?_
        rotate_left
        · intro w'
          go_simp
          with_reducible rfl
        rotate_left
        · simp only [Act.put, List.setIfInBounds_toArray, List.set_cons_zero, List.set_cons_succ, i64_w, i32_w]
          rfl
        refine pure_ (i := 26) (N := some 55) (v := ?_) (a' := ?_) #[true, true, true, true, true, true, true, true, true, true, true, true, true, true, true, true, true, true, true, true, true, true, true, false, true, true, true, false, false, false, false] rfl rfl (by kernel_rfl) (fun _ _ _ h => h) (Or.inl ⟨by rfl, ?_⟩) ?_ ?_
        rotate_left
        · intro w'
          go_simp
          with_reducible rfl
        rotate_left
        · simp only [Act.put, List.setIfInBounds_toArray, List.set_cons_zero, List.set_cons_succ, i64_w, i32_w]
          rfl
        refine pure_ (i := 27) (N := some 56) (v := ?_) (a' := ?_) #[true, true, true, true, true, true, true, true, true, true, true, true, true, true, true, true, true, true, true, true, true, true, true, false, true, true, true, true, false, false, false] rfl rfl (by kernel_rfl) (fun _ _ _ h => h) (Or.inl ⟨by rfl, ?_⟩) ?_ ?_
        rotate_left
        · intro w'
          go_simp
          with_reducible rfl
        rotate_left
        · simp only [Act.put, List.setIfInBounds_toArray, List.set_cons_zero, List.set_cons_succ, i64_w, i32_w]
          rfl
        refine pure_ (i := 28) (N := some 57) (v := ?_) (a' := ?_) #[true, true, true, true, true, true, true, true, true, true, true, true, true, true, true, true, true, true, true, true, true, true, true, false, true, true, true, true, true, false, false] rfl rfl (by kernel_rfl) (fun _ _ _ h => h) (Or.inl ⟨by rfl, ?_⟩) ?_ ?_
        rotate_left
        · intro w'
          go_simp
          with_reducible rfl
        rotate_left
        · simp only [Act.put, List.setIfInBounds_toArray, List.set_cons_zero, List.set_cons_succ, i64_w, i32_w]
          rfl
        refine last_ (i := 23) (N := some 52) #[true, true, true, true, true, true, true, true, true, true, true, true, true, true, true, true, true, true, true, true, true, true, true, true, true, true, true, true, true, false, false] rfl rfl (by kernel_rfl) (by decide) (fun K hK => ?_)
        refine goes_ Try.func14 (by kernel_rfl) rfl #[.pointer (some ⟨q, 0, none⟩)] (by rfl) rfl rfl (by simp only [List.map_toArray, List.map_cons, List.map_nil]; rfl) ?_
        with_reducible refine (QS.len_z HQ.out _ HZ.out).mono ?_
        rintro e w10 ⟨rfl, rfl⟩
        refine ⟨_, rfl, ?_⟩
        refine hK.out _ _ ?_
        clear hK K
        refine norm_ (a' := ?_) ?_ ?_
        rotate_left
        · show Act.put _ (some 52) _ = _
          simp only [Act.put, List.setIfInBounds_toArray, List.set_cons_zero, List.set_cons_succ, i64_w, i32_w]
          rfl
        refine pure_ (i := 29) (N := some 58) (v := ?_) (a' := ?_) #[true, true, true, true, true, true, true, true, true, true, true, true, true, true, true, true, true, true, true, true, true, true, true, true, true, true, true, true, true, true, false] rfl rfl (by kernel_rfl) (fun _ _ _ h => h) (Or.inl ⟨by rfl, ?_⟩) ?_ ?_
        rotate_left
        · intro w'
          go_simp
          with_reducible rfl
        rotate_left
        · simp only [Act.put, List.setIfInBounds_toArray, List.set_cons_zero, List.set_cons_succ, i64_w, i32_w]
          rfl
        refine pure_ (i := 30) (N := some 59) (v := ?_) (a' := ?_) #[true, true, true, true, true, true, true, true, true, true, true, true, true, true, true, true, true, true, true, true, true, true, true, true, true, true, true, true, true, true, true] rfl rfl (by kernel_rfl) (fun _ _ _ h => h) (Or.inl ⟨by rfl, ?_⟩) ?_ ?_
        rotate_left
        · intro w'
          go_simp
          with_reducible rfl
        rotate_left
        · simp only [Act.put, List.setIfInBounds_toArray, List.set_cons_zero, List.set_cons_succ, i64_w, i32_w]
          rfl
        refine done_ (by kernel_rfl) ?_
        go_wp2
        go_roundg (l.length - i)
        case measure => have := HGG.out; have := HIL.out; omega
        case rel =>
          have he : wrap64 (x5 + 1) = ((i + 1 : Nat) : Int) := by have := HI.out.1; have := HL0.out; have := HIL.out; rw [w64 (by omega) (by omega)]; omega
          refine ⟨wrap64 (x5 + 1), i + 1, dropL (dropL Li x) x, rfl, by have := HIL.out; omega, ⟨he, HIL.out, ?_, ?_⟩, HQ, HB, HLR, HM⟩
          · rw [HDD.out]; exact cellsOf_drop HUL.out HCX.out
          · rw [HDD.out]; have := HDL.out; have := HI.out.2.2.2; omega
      · have c2b : decide (x5 < (l.length : Int)) = false := decide_eq_false c2
        have hi : i = l.length := by have := HI.out; omega
        have hce : cellsOf Li p.2 = [] := by rw [HI.out.2.2.1, hi, List.drop_length]
        have HD : Aside0 (headC (cellsOf Li p.2) = (⟨0, 0, 0⟩, false)) := ⟨headC_nil hce⟩
        have HLC : Aside0 ((cellsOf Li p.2).length = 0) := ⟨by rw [hce]; rfl⟩
        have HLL : Aside0 (Li.length ≤ 1000000) := ⟨by rw [← cellsOf_length Li p.2, hce]; simp⟩
        clear hi hce c2
        go_wp2_with (first | (go_at_call 12; (with_reducible refine (QS.first HQ.out HM4.out HSN.out ⟨0, 0, 0⟩ false HD.out).mono ?_); rintro e w5 ⟨rfl, hq, hk⟩; have n0_ : Aside0 (Below w.heap.size w w5) := ⟨(HB.out.trans (hk.below HB.out.size (fun k h => h.1)))⟩; have n1_ : Aside0 (Kd.R k30 30 w5 0 (fun k => M ≤ k) (.slice B l.length bc) l) := ⟨(hk.R HLR.out (fun k h1 h2 => Nat.not_lt.2 h1 h2.2))⟩; have n2_ : Aside0 (M ≤ w5.heap.size) := ⟨(Nat.le_trans HM.out hk.size)⟩; have n3_ : Aside0 (QS w5 (fun k => w.heap.size ≤ k ∧ k < M) q Li p.2 400) := ⟨hq⟩; clear HB HLR HM HQ; have HB := n0_; have HLR := n1_; have HM := n2_; have HQ := n3_; clear n0_ n1_ n2_ n3_; clear hq hk) | ((with_reducible refine gate_dst (N := 8) rfl ?_); refine box_event ?hg (N := 8) ?hd (cs := #[(.int .i64 0), (.int .i64 0), (.int .i64 0)]) (t := 30) ?hr ?_; (case hd => rfl); (case hg => rfl); (case hr => first | (go_simp; done) | (go_simp; rfl)); intro gc hgx w6 hbox hb; have HBX := Aside0.mk hb; have GEX : Aside0 (w5.heap.size ≤ gc) := ⟨by rw [hgx]; exact Nat.le_refl _⟩; have BKX := Aside0.mk hbox; clear hbox hb hgx; have hzx0 : w6.cell? ⟨gc, 0, none⟩ = some (.int .i64 0) := (blk_cell BKX.out 0).trans rfl; have hzx1 : w6.cell? ⟨gc, 1, none⟩ = some (.int .i64 0) := (blk_cell BKX.out 1).trans rfl; have hzx2 : w6.cell? ⟨gc, 2, none⟩ = some (.int .i64 0) := (blk_cell BKX.out 2).trans rfl; have hzf0 := blk_frozen BKX.out 0; have hzf1 := blk_frozen BKX.out 1; have hzf2 := blk_frozen BKX.out 2) | (go_at_call 11; clear hzx0 hzf0 hzx1 hzf1 hzx2 hzf2; have hbw : Below w5.heap.size w5 (((w6.setCell ⟨gc, 0, none⟩ (.int .i64 0)).setCell ⟨gc, 1, none⟩ (.int .i64 0)).setCell ⟨gc, 2, none⟩ (.int .i64 0)) := below_set (below_set (below_set (HBX.out) GEX.out) GEX.out) GEX.out; have n0_ : Aside0 (Below w.heap.size w (((w6.setCell ⟨gc, 0, none⟩ (.int .i64 0)).setCell ⟨gc, 1, none⟩ (.int .i64 0)).setCell ⟨gc, 2, none⟩ (.int .i64 0))) := ⟨(below_step HB.out hbw)⟩; have n1_ : Aside0 (Kd.R k30 30 (((w6.setCell ⟨gc, 0, none⟩ (.int .i64 0)).setCell ⟨gc, 1, none⟩ (.int .i64 0)).setCell ⟨gc, 2, none⟩ (.int .i64 0)) 0 (fun k => M ≤ k) (.slice B l.length bc) l) := ⟨(Kd.R_below HLR.out hbw)⟩; have n2_ : Aside0 (M ≤ (((w6.setCell ⟨gc, 0, none⟩ (.int .i64 0)).setCell ⟨gc, 1, none⟩ (.int .i64 0)).setCell ⟨gc, 2, none⟩ (.int .i64 0)).heap.size) := ⟨(Nat.le_trans HM.out hbw.size)⟩; have n3_ : Aside0 (QS (((w6.setCell ⟨gc, 0, none⟩ (.int .i64 0)).setCell ⟨gc, 1, none⟩ (.int .i64 0)).setCell ⟨gc, 2, none⟩ (.int .i64 0)) (fun k => w.heap.size ≤ k ∧ k < M) q Li p.2 400) := ⟨(QS.below HQ.out hbw)⟩; clear HB HLR HM HQ; have HB := n0_; have HLR := n1_; have HM := n2_; have HQ := n3_; clear n0_ n1_ n2_ n3_; clear hbw BKX HBX GEX; generalize (((w6.setCell ⟨gc, 0, none⟩ (.int .i64 0)).setCell ⟨gc, 1, none⟩ (.int .i64 0)).setCell ⟨gc, 2, none⟩ (.int .i64 0)) = w7 at HB HLR HM HQ ⊢; (with_reducible refine (QS.cells HQ.out HLL.out HSN.out).mono ?_); rintro e w8 hcp; obtain ⟨v, rfl, hR, hb⟩ := hcp; obtain ⟨B2, bc2, ev⟩ := Kd.R_slice hR; subst ev; rw [HLC.out]; have HB8 : Aside0 (Below w.heap.size w w8) := ⟨below_step HB.out hb⟩; clear hR hb))
        go_ret
        exact ⟨rfl, HB8.out⟩
end Go.Proofs.Ytgkbcgmcpbbneaa.Q
