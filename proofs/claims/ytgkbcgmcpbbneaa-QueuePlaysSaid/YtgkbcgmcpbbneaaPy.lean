/- The walk of QueuePlays. -/
import Derived.Test.YtgkbcgmcpbbneaaRl
namespace Go.Proofs.Ytgkbcgmcpbbneaa.Q
open Go Go.RowKit Go.Maps Go.Proofs.YtgkbcgmcpbbneaaW.PrintWords Go.Proofs.YtgkbcgmcpbbneaaW.PrintLast Go.Proofs.YtgkbcgmcpbbneaaW.PrintMore
set_option maxRecDepth 100000
set_option linter.unusedVariables false
set_option linter.unusedSimpArgs false
attribute [local go_sem high] eqA30
theorem eqA46 (d : Nat) (w : World) (x0 y0 x1 y1 x2 y2 x3 y3 x4 y4 : Int) :
    (Op.equalIn (d + 2) 46 (.agg #[.int .i64 x0, .int .i64 x1, .int .i64 x2, .int .i64 x3, .int .i64 x4]) (.agg #[.int .i64 y0, .int .i64 y1, .int .i64 y2, .int .i64 y3, .int .i64 y4])).run Try.prog w = .ok (x0 == y0 && (x1 == y1 && (x2 == y2 && (x3 == y3 && (x4 == y4))))) w := by
  refine eqA_of Try.underlying46 (by kernel_rfl) ?_
  refine eqf_cons (by rfl) (by go_simp; rfl) (by go_simp; rfl) (by go_simp) ?_
  refine eqf_cons (by rfl) (by go_simp; rfl) (by go_simp; rfl) (by go_simp) ?_
  refine eqf_cons (by rfl) (by go_simp; rfl) (by go_simp; rfl) (by go_simp) ?_
  refine eqf_cons (by rfl) (by go_simp; rfl) (by go_simp; rfl) (by go_simp) ?_
  exact eqf_last (by rfl) (by go_simp; rfl) (by go_simp; rfl) (by go_simp)
attribute [local go_sem high] eqA46
theorem Two.start {N : Nat} {w w' : World} {q db : Nat} (hq : QS w (fun k => N ≤ k) q [] [] 0) (hN : N ≤ w.heap.size) (hb : Below w.heap.size w w') (hdb : w'.heap[db]? = some (.cells #[.slice none 0 0, .slice none 0 0] 41 (0, 0))) (hge : w.heap.size ≤ db) : Two (fun k => N ≤ k) w' q db [] [] [] [] 0 :=
  ⟨_, fun k => k = db, hq.bound.below hb, ⟨_, _, hdb, Kd.R_nil .., Kd.R_nil .., rfl⟩, fun k hk => ⟨hk.1, Nat.lt_of_lt_of_le hk.2 hb.size, fun e => Nat.lt_irrefl _ (Nat.lt_of_lt_of_le hk.2 (by rw [e]; exact hge))⟩, fun k e => by subst e; exact ⟨Nat.le_trans hN hge, blk_lt hdb⟩⟩
def fillA (l : List S46) : Nat → List S46
  | 0 => l
  | i + 1 => (fillA l i).set i ⟨-78, 0, 0, 0, 0⟩
theorem fillA_len (l : List S46) : ∀ i, (fillA l i).length = l.length
  | 0 => rfl
  | i + 1 => by rw [fillA, List.length_set]; exact fillA_len l i
theorem fillA_ge (l : List S46) : ∀ (i j : Nat), i ≤ j → (fillA l i)[j]? = l[j]?
  | 0, j, _ => rfl
  | i + 1, j, h => by rw [fillA, List.getElem?_set_ne (by omega)]; exact fillA_ge l i j (by omega)
theorem rdA_fill {ys : List S46} {z : S46} {i : Nat} (hi : i < ys.length) : (fillA (ys ++ [z]) i).getD i z46 = ys[i] := by
  rw [List.getD_eq_getElem?_getD, fillA_ge _ i i (Nat.le_refl _), List.getElem?_append_left hi, List.getElem?_eq_getElem hi]; rfl
theorem rdA_end {ys : List S46} {z : S46} : (fillA (ys ++ [z]) ys.length).getD ys.length z46 = z := by
  rw [List.getD_eq_getElem?_getD, fillA_ge _ _ _ (Nat.le_refl _), List.getElem?_append_right (Nat.le_refl _), Nat.sub_self]; rfl
theorem one5 (a b c d e : Int) : ∀ q ∈ ([.int .i64 a, .int .i64 b, .int .i64 c, .int .i64 d, .int .i64 e] : List Value), q.oneCell' = true := by
  intro q hq
  simp only [List.mem_cons, List.not_mem_nil, or_false] at hq
  rcases hq with rfl | rfl | rfl | rfl | rfl <;> rfl
abbrev ac (x : S46) : List Value := [.int .i64 x.f0, .int .i64 x.f1, .int .i64 x.f2, .int .i64 x.f3, .int .i64 x.f4]
theorem el46 {w : World} {ok : Nat → Prop} {g n cap : Nat} {L : List S46} (h : Kd.R k46 46 w 0 ok (.slice (some ⟨g, 0, none⟩) n cap) L) (i : Int) (h0 : 0 ≤ i) (h1 : i < n) : (∀ j u, (ac (L.getD i.toNat z46))[j]? = some u → w.cell? ⟨g, i.toNat * 5 + j, none⟩ = some u) ∧ ∀ j, w.frozen? ⟨g, i.toNat * 5 + j, none⟩ = false := by
  obtain ⟨c, hcl, hM, hcc, hfr⟩ := Kd.R_elem h z46 i h0 h1
  obtain rfl := k46_openM hM
  exact ⟨hcc, hfr⟩

set_option maxHeartbeats 8000000 in
theorem plays_contract (w : World) (A : Option Addr) (c : Nat) (xs : List S43) (hC : Kd.C k43 w A xs.length xs) (hc : xs.length ≤ c) (hh : NotHuge xs) (hw : ∀ a ∈ xs, WfA a) :
    Calls Try.prog 5 #[.slice A xs.length c] w fun e w' => e = .returned (.bool true) ∧ Below w.heap.size w w' := by
  have hu30 := Try.underlying30
  have hu27 := Try.underlying27
  have hu39 := Try.underlying39
  obtain ⟨km, bm, hmu, hfew⟩ := much_ok xs hh
  obtain ⟨p, hp⟩ : ∃ p, runP xs = p := ⟨_, rfl⟩
  have HP := Aside0.mk hp
  have HMU := Aside0.mk hmu
  have HC := Aside0.mk hC
  have HCC := Aside0.mk hc
  have HWA := Aside0.mk hw
  clear hC hc hh hw hp hmu
  cases bm with
  | true =>
    go_enter Try.func5, Try.ntmps5
    go_wp2_with (first | (go_at_call 8; (with_reducible refine (able_calls _).mono ?_); rintro e w1 ⟨rfl, hb⟩; have HB := Aside0.mk hb; clear hb) | (go_at_call 9; (with_reducible refine (whittlelaw14_much.calls km A c xs _ w1 (Kd.C_below HC.out HB.out) HCC.out HMU.out).mono ?_); rintro e w2 ⟨rfl, hd⟩; have n0_ : Aside0 (Below w.heap.size w w2) := ⟨below_step HB.out hd.below⟩; clear HB hd; have HB := n0_; clear n0_))
    go_ret
    exact ⟨rfl, HB.out⟩
  | false =>
    have HFW : Aside0 (Few xs) := ⟨hfew rfl⟩
    clear hfew HP
    go_enter Try.func5, Try.ntmps5
    go_wp2_with (first | (go_at_call 8; (with_reducible refine (able_calls _).mono ?_); rintro e w1 ⟨rfl, hb⟩; have HB := Aside0.mk hb; clear hb) | (go_at_call 9; (with_reducible refine (whittlelaw14_much.calls km A c xs _ w1 (Kd.C_below HC.out HB.out) HCC.out HMU.out).mono ?_); rintro e w2 ⟨rfl, hd⟩; have n0_ : Aside0 (Below w.heap.size w w2) := ⟨below_step HB.out hd.below⟩; clear HB hd; have HB := n0_; clear n0_) | (go_at_call 16; (with_reducible refine (QS.new _).mono ?_); rintro e w3 ⟨q, rfl, hq, hb⟩; have n0_ : Aside0 (Below w.heap.size w w3) := ⟨below_step HB.out hb⟩; have HQ : Aside0 (QS w3 (fun k => w.heap.size ≤ k) q [] [] 0) := ⟨hq.mono (fun k hk => Nat.le_trans HB.out.size hk)⟩; clear HB hq hb; have HB := n0_; clear n0_) | ((with_reducible refine gate_dst (N := 15) rfl ?_); refine box_event ?hg (N := 15) ?hd (cs := #[.slice none 0 0, .slice none 0 0]) (t := 41) ?hr ?_; (case hd => rfl); (case hg => rfl); (case hr => first | (go_simp; done) | (go_simp; rfl)); intro db hgx w4 hbox hb; have HT : Aside0 (Two (fun k => w.heap.size ≤ k) w4 q db [] [] [] [] 0) := ⟨Two.start HQ.out HB.out.size hb hbox (by rw [hgx]; exact Nat.le_refl _)⟩; have n0_ : Aside0 (Below w.heap.size w w4) := ⟨below_step HB.out hb⟩; clear HB HQ hbox hb hgx; have HB := n0_; clear n0_))
    go_loopg [5] (xs.length + 1) (fun gg v5 wr => ∃ (x5 : Int) (i : Nat), v5 = .int .i64 x5 ∧ xs.length - i + 1 ≤ gg ∧ Aside0 (x5 = (i : Int) ∧ i ≤ xs.length) ∧ Aside0 (Two (fun k => w.heap.size ≤ k) wr q db (runP (xs.take i)).1 (runP (xs.take i)).1 (runP (xs.take i)).2 (runP (xs.take i)).2 i) ∧ Aside0 (Below w.heap.size w wr))
    case atStart => exact ⟨0, 0, rfl, by omega, ⟨rfl, Nat.zero_le _⟩, HT, HB⟩
    case round =>
      clear HT HB
      obtain ⟨x5, i, rfl, hgg, HI, HT, HB⟩ := hrel
      have HGG := Aside0.mk hgg
      clear hgg
      by_cases c2 : x5 < (xs.length : Int)
      · have c2b : decide (x5 < (xs.length : Int)) = true := decide_eq_true c2
        have c3 : 0 ≤ x5 := by have := HI.out.1; omega
        have c3b : decide (0 ≤ x5) = true := decide_eq_true c3
        have hil : i < xs.length := by have := HI.out.1; omega
        obtain ⟨ad, A5, c5, hA, hx0, hx1, hx2, hx3, hx4, hx5, hl5, hi5⟩ := at_T43 HC.out x5 c3 c2
        cases hA
        have hrd : rd_T43 xs x5 = xs[i] := by rw [HI.out.1]; exact rd43 xs i hil
        have HST : Aside0 (runP (xs.take (i + 1)) = stepP (runP (xs.take i)) (rd_T43 xs x5)) := ⟨by rw [hrd]; exact runP_take xs i hil⟩
        have HWA : Aside0 (WfA (rd_T43 xs x5) ∧ (rd_T43 xs x5).f3.length ≤ 400) := ⟨by rw [hrd]; exact ⟨HWA.out _ (List.getElem_mem hil), HFW.out.2 _ (List.getElem_mem hil)⟩⟩
        have HPL : Aside0 ((runP (xs.take i)).1.length ≤ i ∧ (runP (xs.take i)).2.length ≤ 400 ∧ i < 400) := ⟨by have h1 := runP_len (xs.take i); rw [List.length_take] at h1; refine ⟨by omega, runP_seen (HFW.out.take i), by have := HFW.out.1; omega⟩⟩
        have HPN : Aside0 ((runP (xs.take (i + 1))).1.length ≤ 1000000 ∧ (runP (xs.take (i + 1))).2.length ≤ 1000000) := ⟨by have h1 := runP_len (xs.take (i + 1)); rw [List.length_take] at h1; have h2 := HFW.out.1; have h3 := runP_seen (HFW.out.take (i + 1)); omega⟩
        have HIL := Aside0.mk hil
        generalize rd_T43 xs x5 = a at hx0 hx1 hx2 hx3 hx4 hx5 hl5 hi5 HST HWA
        generalize hp : runP (xs.take i) = r at HT HST HPL
        clear hrd hil hp
        have HWC : Aside0 (Wc a.f1) := ⟨HWA.out.1.2.1⟩
        have HWN : Aside0 (Wf a.f2) := ⟨HWA.out.1.2.2⟩
        have c2t := eq_true c2
        have c3t := eq_true c3
        clear c2 c3
        replace hx0 := pw_cell_below HB.out hx0
        replace hx1 := pw_cell_below HB.out hx1
        replace hx2 := pw_cell_below HB.out hx2
        replace hx3 := pw_cell_below HB.out hx3
        replace hx4 := pw_cell_below HB.out hx4
        replace hx5 := pw_cell_below HB.out hx5
        obtain ⟨n, hn⟩ : ∃ n, a.f3.length = n := ⟨_, rfl⟩
        rw [hn] at hx5
        have HN := Aside0.mk hn
        have HC5 : Aside0 (Kd.C k46 w A5 n a.f3) := ⟨by rw [← hn]; exact hi5⟩
        clear hn hl5 hi5
        obtain ⟨KB, hK⟩ : ∃ KB, wr.heap.size = KB := ⟨_, rfl⟩
        have HKN : Aside0 (w.heap.size ≤ KB) := ⟨by rw [← hK]; exact HB.out.size⟩
        have HKE := Aside0.mk hK
        replace HT : Aside0 (Two (fun k => w.heap.size ≤ k ∧ k < KB) wr q db r.1 r.1 r.2 r.2 i) := ⟨by have := HT.out.bound; rwa [hK] at this⟩
        clear hK
        by_cases k1 : a.f0 = 1
        · have K1 := Aside0.mk k1
          have k1b : (a.f0 == 1) = true := by rw [k1]; rfl
          clear k1
          have HUR := Aside0.mk HT.out.uniq
          go_wp2_with (first | ((with_reducible refine gate_dst (N := 6) rfl ?_); refine box_event ?hg (N := 6) ?hd (cs := #[(.int .i64 0), (.int .i64 0), (.int .i64 0), (.int .i64 0), (.int .i64 0), (.slice none 0 0)]) (t := 43) ?hr ?_; (case hd => rfl); (case hg => rfl); (case hr => first | (go_simp; done) | (go_simp; rfl)); intro ga hgx w6 hbox hb; have HBX := Aside0.mk hb; have GEX : Aside0 (wr.heap.size ≤ ga) := ⟨by rw [hgx]; exact Nat.le_refl _⟩; have BKX := Aside0.mk hbox; clear hbox hb hgx; have hzx0 : w6.cell? ⟨ga, 0, none⟩ = some (.int .i64 0) := (blk_cell BKX.out 0).trans rfl; have hzx1 : w6.cell? ⟨ga, 1, none⟩ = some (.int .i64 0) := (blk_cell BKX.out 1).trans rfl; have hzx2 : w6.cell? ⟨ga, 2, none⟩ = some (.int .i64 0) := (blk_cell BKX.out 2).trans rfl; have hzx3 : w6.cell? ⟨ga, 3, none⟩ = some (.int .i64 0) := (blk_cell BKX.out 3).trans rfl; have hzx4 : w6.cell? ⟨ga, 4, none⟩ = some (.int .i64 0) := (blk_cell BKX.out 4).trans rfl; have hzx5 : w6.cell? ⟨ga, 5, none⟩ = some (.slice none 0 0) := (blk_cell BKX.out 5).trans rfl; have hzf0 := blk_frozen BKX.out 0; have hzf1 := blk_frozen BKX.out 1; have hzf2 := blk_frozen BKX.out 2; have hzf3 := blk_frozen BKX.out 3; have hzf4 := blk_frozen BKX.out 4; have hzf5 := blk_frozen BKX.out 5) | (go_at_call 17; clear hzx0 hzf0 hzx1 hzf1 hzx2 hzf2 hzx3 hzf3 hzx4 hzf4 hzx5 hzf5; have hbw : Below wr.heap.size wr ((((((w6.setCell ⟨ga, 0, none⟩ (.int .i64 a.f0)).setCell ⟨ga, 1, none⟩ (.int .i64 a.f1.f0)).setCell ⟨ga, 2, none⟩ (.int .i64 a.f1.f1)).setCell ⟨ga, 3, none⟩ (.int .i64 a.f1.f2)).setCell ⟨ga, 4, none⟩ (.int .i64 a.f2)).setCell ⟨ga, 5, none⟩ (.slice A5 n c5)) := below_set (below_set (below_set (below_set (below_set (below_set (HBX.out) GEX.out) GEX.out) GEX.out) GEX.out) GEX.out) GEX.out; have n0_ : Aside0 (Below w.heap.size w ((((((w6.setCell ⟨ga, 0, none⟩ (.int .i64 a.f0)).setCell ⟨ga, 1, none⟩ (.int .i64 a.f1.f0)).setCell ⟨ga, 2, none⟩ (.int .i64 a.f1.f1)).setCell ⟨ga, 3, none⟩ (.int .i64 a.f1.f2)).setCell ⟨ga, 4, none⟩ (.int .i64 a.f2)).setCell ⟨ga, 5, none⟩ (.slice A5 n c5))) := ⟨(below_step HB.out hbw)⟩; have n1_ : Aside0 (Two (fun k => w.heap.size ≤ k ∧ k < KB) ((((((w6.setCell ⟨ga, 0, none⟩ (.int .i64 a.f0)).setCell ⟨ga, 1, none⟩ (.int .i64 a.f1.f0)).setCell ⟨ga, 2, none⟩ (.int .i64 a.f1.f1)).setCell ⟨ga, 3, none⟩ (.int .i64 a.f1.f2)).setCell ⟨ga, 4, none⟩ (.int .i64 a.f2)).setCell ⟨ga, 5, none⟩ (.slice A5 n c5)) q db r.1 r.1 r.2 r.2 i) := ⟨(Two.below HT.out hbw)⟩; clear HB HT; have HB := n0_; have HT := n1_; clear n0_ n1_; have BKga : Aside0 (((((((w6.setCell ⟨ga, 0, none⟩ (.int .i64 a.f0)).setCell ⟨ga, 1, none⟩ (.int .i64 a.f1.f0)).setCell ⟨ga, 2, none⟩ (.int .i64 a.f1.f1)).setCell ⟨ga, 3, none⟩ (.int .i64 a.f1.f2)).setCell ⟨ga, 4, none⟩ (.int .i64 a.f2)).setCell ⟨ga, 5, none⟩ (.slice A5 n c5)).heap[ga]? = some (.cells #[(.int .i64 a.f0), (.int .i64 a.f1.f0), (.int .i64 a.f1.f1), (.int .i64 a.f1.f2), (.int .i64 a.f2), (.slice A5 n c5)] 43 (0, 0))) := ⟨by refine blk_put (cs := #[(.int .i64 a.f0), (.int .i64 a.f1.f0), (.int .i64 a.f1.f1), (.int .i64 a.f1.f2), (.int .i64 a.f2), (.slice none 0 0)]) ?_ 5 _ rfl; refine blk_put (cs := #[(.int .i64 a.f0), (.int .i64 a.f1.f0), (.int .i64 a.f1.f1), (.int .i64 a.f1.f2), (.int .i64 0), (.slice none 0 0)]) ?_ 4 _ rfl; refine blk_put (cs := #[(.int .i64 a.f0), (.int .i64 a.f1.f0), (.int .i64 a.f1.f1), (.int .i64 0), (.int .i64 0), (.slice none 0 0)]) ?_ 3 _ rfl; refine blk_put (cs := #[(.int .i64 a.f0), (.int .i64 a.f1.f0), (.int .i64 0), (.int .i64 0), (.int .i64 0), (.slice none 0 0)]) ?_ 2 _ rfl; refine blk_put (cs := #[(.int .i64 a.f0), (.int .i64 0), (.int .i64 0), (.int .i64 0), (.int .i64 0), (.slice none 0 0)]) ?_ 1 _ rfl; refine blk_put (cs := #[(.int .i64 0), (.int .i64 0), (.int .i64 0), (.int .i64 0), (.int .i64 0), (.slice none 0 0)]) ?_ 0 _ rfl; exact BKX.out⟩; have GA : Aside0 (wr.heap.size ≤ ga) := ⟨GEX.out⟩; clear hbw BKX HBX GEX; generalize ((((((w6.setCell ⟨ga, 0, none⟩ (.int .i64 a.f0)).setCell ⟨ga, 1, none⟩ (.int .i64 a.f1.f0)).setCell ⟨ga, 2, none⟩ (.int .i64 a.f1.f1)).setCell ⟨ga, 3, none⟩ (.int .i64 a.f1.f2)).setCell ⟨ga, 4, none⟩ (.int .i64 a.f2)).setCell ⟨ga, 5, none⟩ (.slice A5 n c5)) = w7 at HB HT BKga ⊢; (with_reducible refine (Two.qput HT.out a.f1 HWC.out a.f2 HWN.out (by have := HPL.out; omega) (by have := HPL.out; omega) (by have := HPL.out; omega)).mono ?_); rintro e w8 ⟨rfl, hq, hk⟩; have n0_ : Aside0 (Two (More (fun k => w.heap.size ≤ k ∧ k < KB) w7) w8 q db (putL r.1 a.f1 a.f2) r.1 r.2 r.2 (i + 1)) := ⟨hq⟩; have n1_ : Aside0 (Below w.heap.size w w8) := ⟨HB.out.trans (hk.below HB.out.size (fun k h => by exact h.1))⟩; have n2_ : Aside0 (w8.heap[ga]? = some (.cells #[(.int .i64 a.f0), (.int .i64 a.f1.f0), (.int .i64 a.f1.f1), (.int .i64 a.f1.f2), (.int .i64 a.f2), (.slice A5 n c5)] 43 (0, 0))) := ⟨hk.blk BKga.out (fun h => by have := GA.out; have := HKE.out; omega)⟩; have Sw8 : Aside0 (w7.heap.size ≤ w8.heap.size) := ⟨hk.size⟩; have L7 : Aside0 (ga < w7.heap.size ∧ w.heap.size ≤ w7.heap.size) := ⟨blk_lt BKga.out, HB.out.size⟩; clear HT HB BKga hq hk; have HT := n0_; have HB := n1_; have BKga := n2_; clear n0_ n1_ n2_; have hga0 : w8.cell? ⟨ga, 0, none⟩ = some (.int .i64 a.f0) := (blk_cell BKga.out 0).trans rfl; have hga1 : w8.cell? ⟨ga, 1, none⟩ = some (.int .i64 a.f1.f0) := (blk_cell BKga.out 1).trans rfl; have hga2 : w8.cell? ⟨ga, 2, none⟩ = some (.int .i64 a.f1.f1) := (blk_cell BKga.out 2).trans rfl; have hga3 : w8.cell? ⟨ga, 3, none⟩ = some (.int .i64 a.f1.f2) := (blk_cell BKga.out 3).trans rfl; have hga4 : w8.cell? ⟨ga, 4, none⟩ = some (.int .i64 a.f2) := (blk_cell BKga.out 4).trans rfl; have hga5 : w8.cell? ⟨ga, 5, none⟩ = some (.slice A5 n c5) := (blk_cell BKga.out 5).trans rfl) | (go_at_call 18; clear hga0 hga1 hga2 hga3 hga4 hga5; (with_reducible refine (Two.dput HT.out HUR.out a.f1 a.f2 (by have := HPL.out; omega)).mono ?_); rintro e w9 ⟨rfl, hq, hk⟩; have n0_ : Aside0 (Two (More (More (fun k => w.heap.size ≤ k ∧ k < KB) w7) w8) w9 q db (putL r.1 a.f1 a.f2) (putL r.1 a.f1 a.f2) r.2 r.2 (i + 1)) := ⟨hq⟩; have n1_ : Aside0 (Below w.heap.size w w9) := ⟨HB.out.trans (hk.below HB.out.size (fun k h => by have := L7.out; rcases h with h | h <;> omega))⟩; have n2_ : Aside0 (w9.heap[ga]? = some (.cells #[(.int .i64 a.f0), (.int .i64 a.f1.f0), (.int .i64 a.f1.f1), (.int .i64 a.f1.f2), (.int .i64 a.f2), (.slice A5 n c5)] 43 (0, 0))) := ⟨hk.blk BKga.out (fun h => by have := GA.out; have := HKE.out; have := L7.out; rcases h with h | h <;> omega)⟩; have Sw9 : Aside0 (w8.heap.size ≤ w9.heap.size) := ⟨hk.size⟩; clear HT HB BKga hq hk; have HT := n0_; have HB := n1_; have BKga := n2_; clear n0_ n1_ n2_; have hga0 : w9.cell? ⟨ga, 0, none⟩ = some (.int .i64 a.f0) := (blk_cell BKga.out 0).trans rfl; have hga1 : w9.cell? ⟨ga, 1, none⟩ = some (.int .i64 a.f1.f0) := (blk_cell BKga.out 1).trans rfl; have hga2 : w9.cell? ⟨ga, 2, none⟩ = some (.int .i64 a.f1.f1) := (blk_cell BKga.out 2).trans rfl; have hga3 : w9.cell? ⟨ga, 3, none⟩ = some (.int .i64 a.f1.f2) := (blk_cell BKga.out 3).trans rfl; have hga4 : w9.cell? ⟨ga, 4, none⟩ = some (.int .i64 a.f2) := (blk_cell BKga.out 4).trans rfl; have hga5 : w9.cell? ⟨ga, 5, none⟩ = some (.slice A5 n c5) := (blk_cell BKga.out 5).trans rfl) | (go_at_call 22; clear hga0 hga1 hga2 hga3 hga4 hga5; have hs : runP (xs.take (i + 1)) = (putL r.1 a.f1 a.f2, r.2) := (by rw [HST.out]; unfold stepP; rw [if_pos K1.out]); have hT2 := HT.out.grow (m2 := i + 1) (by exact Nat.le_refl _); have e1 : (putL r.1 a.f1 a.f2, r.2).1 = (runP (xs.take (i + 1))).1 := (by rw [hs]); have e2 : (putL r.1 a.f1 a.f2, r.2).2 = (runP (xs.take (i + 1))).2 := (by rw [hs]); (try dsimp only at e1 e2); rw [e1, e2] at hT2; (with_reducible refine (looks_calls _ _ q db (i + 1) _ _ hT2 HPN.out.1 (by have := HPL.out; omega) HPN.out.2 a.f1 HWC.out).mono ?_); rintro e wz ⟨rfl, hq, hk⟩; have HTZ : Aside0 (Two (fun k => w.heap.size ≤ k) wz q db (runP (xs.take (i + 1))).1 (runP (xs.take (i + 1))).1 (runP (xs.take (i + 1))).2 (runP (xs.take (i + 1))).2 (i + 1)) := ⟨hq.mono (fun k h _ => by have := HB.out.size; have := HKN.out; show w.heap.size ≤ k; have := L7.out; have := Sw8.out; have := Sw9.out; rcases h with ((h | h) | h) | h <;> omega)⟩; have HBZ : Aside0 (Below w.heap.size w wz) := ⟨HB.out.trans (hk.below HB.out.size (fun k h => by have := HB.out.size; have := HKN.out; have := L7.out; have := Sw8.out; rcases h with (h | h) | h <;> omega))⟩; clear hq hk hs hT2 e1 e2))
          go_roundg (xs.length - i)
          case measure => have := HGG.out; have := HIL.out; omega
          case rel =>
            have he : wrap64 (x5 + 1) = ((i + 1 : Nat) : Int) := by have := HI.out.1; have := HPL.out; rw [w64 (by omega) (by omega)]; omega
            exact ⟨wrap64 (x5 + 1), i + 1, rfl, by have := HIL.out; omega, ⟨he, HIL.out⟩, HTZ, HBZ⟩
        · have K1 := Aside0.mk k1
          have k1b : (a.f0 == 1) = false := by rw [beq_eq_false_iff_ne]; exact k1
          clear k1
          by_cases k2 : a.f0 = 2
          · have K2 := Aside0.mk k2
            have k2b : (a.f0 == 2) = true := by rw [k2]; rfl
            clear k2
            have HUR := Aside0.mk HT.out.uniq
            go_wp2_with ((with_reducible refine gate_dst (N := 6) rfl ?_); refine box_event ?hg (N := 6) ?hd (cs := #[(.int .i64 0), (.int .i64 0), (.int .i64 0), (.int .i64 0), (.int .i64 0), (.slice none 0 0)]) (t := 43) ?hr ?_; (case hd => rfl); (case hg => rfl); (case hr => first | (go_simp; done) | (go_simp; rfl)); intro ga hgx w6 hbox hb; have HBX := Aside0.mk hb; have GEX : Aside0 (wr.heap.size ≤ ga) := ⟨by rw [hgx]; exact Nat.le_refl _⟩; have BKX := Aside0.mk hbox; clear hbox hb hgx; have hzx0 : w6.cell? ⟨ga, 0, none⟩ = some (.int .i64 0) := (blk_cell BKX.out 0).trans rfl; have hzx1 : w6.cell? ⟨ga, 1, none⟩ = some (.int .i64 0) := (blk_cell BKX.out 1).trans rfl; have hzx2 : w6.cell? ⟨ga, 2, none⟩ = some (.int .i64 0) := (blk_cell BKX.out 2).trans rfl; have hzx3 : w6.cell? ⟨ga, 3, none⟩ = some (.int .i64 0) := (blk_cell BKX.out 3).trans rfl; have hzx4 : w6.cell? ⟨ga, 4, none⟩ = some (.int .i64 0) := (blk_cell BKX.out 4).trans rfl; have hzx5 : w6.cell? ⟨ga, 5, none⟩ = some (.slice none 0 0) := (blk_cell BKX.out 5).trans rfl; have hzf0 := blk_frozen BKX.out 0; have hzf1 := blk_frozen BKX.out 1; have hzf2 := blk_frozen BKX.out 2; have hzf3 := blk_frozen BKX.out 3; have hzf4 := blk_frozen BKX.out 4; have hzf5 := blk_frozen BKX.out 5)
            clear hzx0 hzf0 hzx1 hzf1 hzx2 hzf2 hzx3 hzf3 hzx4 hzf4 hzx5 hzf5
            have hbw : Below wr.heap.size wr ((((((w6.setCell ⟨ga, 0, none⟩ (.int .i64 a.f0)).setCell ⟨ga, 1, none⟩ (.int .i64 a.f1.f0)).setCell ⟨ga, 2, none⟩ (.int .i64 a.f1.f1)).setCell ⟨ga, 3, none⟩ (.int .i64 a.f1.f2)).setCell ⟨ga, 4, none⟩ (.int .i64 a.f2)).setCell ⟨ga, 5, none⟩ (.slice A5 n c5)) := below_set (below_set (below_set (below_set (below_set (below_set (HBX.out) GEX.out) GEX.out) GEX.out) GEX.out) GEX.out) GEX.out
            have n0_ : Aside0 (Below w.heap.size w ((((((w6.setCell ⟨ga, 0, none⟩ (.int .i64 a.f0)).setCell ⟨ga, 1, none⟩ (.int .i64 a.f1.f0)).setCell ⟨ga, 2, none⟩ (.int .i64 a.f1.f1)).setCell ⟨ga, 3, none⟩ (.int .i64 a.f1.f2)).setCell ⟨ga, 4, none⟩ (.int .i64 a.f2)).setCell ⟨ga, 5, none⟩ (.slice A5 n c5))) := ⟨(below_step HB.out hbw)⟩
            have n1_ : Aside0 (Two (fun k => w.heap.size ≤ k ∧ k < KB) ((((((w6.setCell ⟨ga, 0, none⟩ (.int .i64 a.f0)).setCell ⟨ga, 1, none⟩ (.int .i64 a.f1.f0)).setCell ⟨ga, 2, none⟩ (.int .i64 a.f1.f1)).setCell ⟨ga, 3, none⟩ (.int .i64 a.f1.f2)).setCell ⟨ga, 4, none⟩ (.int .i64 a.f2)).setCell ⟨ga, 5, none⟩ (.slice A5 n c5)) q db r.1 r.1 r.2 r.2 i) := ⟨(Two.below HT.out hbw)⟩
            clear HB HT
            have HB := n0_
            have HT := n1_
            clear n0_ n1_
            have BKga : Aside0 (((((((w6.setCell ⟨ga, 0, none⟩ (.int .i64 a.f0)).setCell ⟨ga, 1, none⟩ (.int .i64 a.f1.f0)).setCell ⟨ga, 2, none⟩ (.int .i64 a.f1.f1)).setCell ⟨ga, 3, none⟩ (.int .i64 a.f1.f2)).setCell ⟨ga, 4, none⟩ (.int .i64 a.f2)).setCell ⟨ga, 5, none⟩ (.slice A5 n c5)).heap[ga]? = some (.cells #[(.int .i64 a.f0), (.int .i64 a.f1.f0), (.int .i64 a.f1.f1), (.int .i64 a.f1.f2), (.int .i64 a.f2), (.slice A5 n c5)] 43 (0, 0))) := ⟨by refine blk_put (cs := #[(.int .i64 a.f0), (.int .i64 a.f1.f0), (.int .i64 a.f1.f1), (.int .i64 a.f1.f2), (.int .i64 a.f2), (.slice none 0 0)]) ?_ 5 _ rfl; refine blk_put (cs := #[(.int .i64 a.f0), (.int .i64 a.f1.f0), (.int .i64 a.f1.f1), (.int .i64 a.f1.f2), (.int .i64 0), (.slice none 0 0)]) ?_ 4 _ rfl; refine blk_put (cs := #[(.int .i64 a.f0), (.int .i64 a.f1.f0), (.int .i64 a.f1.f1), (.int .i64 0), (.int .i64 0), (.slice none 0 0)]) ?_ 3 _ rfl; refine blk_put (cs := #[(.int .i64 a.f0), (.int .i64 a.f1.f0), (.int .i64 0), (.int .i64 0), (.int .i64 0), (.slice none 0 0)]) ?_ 2 _ rfl; refine blk_put (cs := #[(.int .i64 a.f0), (.int .i64 0), (.int .i64 0), (.int .i64 0), (.int .i64 0), (.slice none 0 0)]) ?_ 1 _ rfl; refine blk_put (cs := #[(.int .i64 0), (.int .i64 0), (.int .i64 0), (.int .i64 0), (.int .i64 0), (.slice none 0 0)]) ?_ 0 _ rfl; exact BKX.out⟩
            have GA : Aside0 (wr.heap.size ≤ ga) := ⟨GEX.out⟩
            clear hbw BKX HBX GEX
            generalize ((((((w6.setCell ⟨ga, 0, none⟩ (.int .i64 a.f0)).setCell ⟨ga, 1, none⟩ (.int .i64 a.f1.f0)).setCell ⟨ga, 2, none⟩ (.int .i64 a.f1.f1)).setCell ⟨ga, 3, none⟩ (.int .i64 a.f1.f2)).setCell ⟨ga, 4, none⟩ (.int .i64 a.f2)).setCell ⟨ga, 5, none⟩ (.slice A5 n c5)) = w7 at HB HT BKga ⊢
            refine start_ (n := 9) (S := fun w' => w'.cell? ⟨ga, 1, none⟩ = some (.int .i64 a.f1.f0) ∧ w'.cell? ⟨ga, 2, none⟩ = some (.int .i64 a.f1.f1) ∧ w'.cell? ⟨ga, 3, none⟩ = some (.int .i64 a.f1.f2)) (ds := [7]) #[false, false, false, false, false, false, false, false, false] (by kernel_rfl) rfl rfl ⟨(blk_cell BKga.out 1).trans rfl, (blk_cell BKga.out 2).trans rfl, (blk_cell BKga.out 3).trans rfl⟩ (fun hHeld => ?_)
            refine pure_ (i := 0) (N := some 44) (v := ?_) (a' := ?_) #[true, false, false, false, false, false, false, false, false] rfl rfl (by kernel_rfl) (fun _ _ _ h => h) (Or.inl ⟨by rfl, ?_⟩) ?_ ?_
            rotate_left
            · intro w'
              go_simp
              with_reducible rfl
            rotate_left
            · simp only [Act.put, List.setIfInBounds_toArray, List.set_cons_zero, List.set_cons_succ, i64_w, i32_w]
              rfl
            refine pure_ (i := 1) (N := some 45) (v := ?_) (a' := ?_) #[true, true, false, false, false, false, false, false, false] rfl rfl (by kernel_rfl) (fun _ _ _ h => h) (Or.inl ⟨by rfl, ?_⟩) ?_ ?_
            rotate_left
            · intro w'
              go_simp
              with_reducible rfl
            rotate_left
            · simp only [Act.put, List.setIfInBounds_toArray, List.set_cons_zero, List.set_cons_succ, i64_w, i32_w]
              rfl
            refine pure_ (i := 4) (N := some 48) (v := ?_) (a' := ?_) #[true, true, false, false, true, false, false, false, false] rfl rfl (by kernel_rfl) (fun _ _ _ h => h) (Or.inl ⟨by rfl, ?_⟩) ?_ ?_
            rotate_left
            · intro w'
              go_simp
              with_reducible rfl
            rotate_left
            · simp only [Act.put, List.setIfInBounds_toArray, List.set_cons_zero, List.set_cons_succ, i64_w, i32_w]
              rfl
            refine pure_ (i := 5) (N := some 49) (v := ?_) (a' := ?_) #[true, true, false, false, true, true, false, false, false] rfl rfl (by kernel_rfl) (fun _ _ _ h => h) (Or.inl ⟨by rfl, ?_⟩) ?_ ?_
            rotate_left
            · intro w'
              go_simp
              with_reducible rfl
            rotate_left
            · simp only [Act.put, List.setIfInBounds_toArray, List.set_cons_zero, List.set_cons_succ, i64_w, i32_w]
              rfl
            refine take_ (i := 2) (N := some 46) (v := ?_) (a' := ?_) #[true, true, true, false, true, true, false, false, false] rfl rfl (by kernel_rfl) (fun _ _ _ h => h) (Or.inl ⟨by rfl, ?_⟩) hHeld ?_ ?_
            rotate_left
            · rintro w' ⟨s0, s1, s2⟩
              go_simp
              with_reducible rfl
            rotate_left
            · simp only [Act.put, List.setIfInBounds_toArray, List.set_cons_zero, List.set_cons_succ, i64_w, i32_w]
              rfl
            refine take_ (i := 6) (N := some 50) (v := ?_) (a' := ?_) #[true, true, true, false, true, true, true, false, false] rfl rfl (by kernel_rfl) (fun _ _ _ h => h) (Or.inl ⟨by rfl, ?_⟩) hHeld ?_ ?_
            rotate_left
            · rintro w' ⟨s0, s1, s2⟩
              go_simp
              with_reducible rfl
            rotate_left
            · simp only [Act.put, List.setIfInBounds_toArray, List.set_cons_zero, List.set_cons_succ, i64_w, i32_w]
              rfl
            refine one_ (i := 3) (N := some 47) #[true, true, true, true, true, true, true, false, false] rfl rfl (by kernel_rfl) (by decide) (fun K hK => ?_)
            have n0_ : Aside0 (Below w.heap.size w w7.drew) := ⟨(below_step HB.out (below_drew1 (Below.refl w7.heap.size w7)))⟩
            have n1_ : Aside0 (Two (fun k => w.heap.size ≤ k ∧ k < KB) w7.drew q db r.1 r.1 r.2 r.2 i) := ⟨(Two.below HT.out (below_drew1 (Below.refl w7.heap.size w7)))⟩
            have n2_ : Aside0 (w7.drew.heap[ga]? = some (.cells #[(.int .i64 a.f0), (.int .i64 a.f1.f0), (.int .i64 a.f1.f1), (.int .i64 a.f1.f2), (.int .i64 a.f2), (.slice A5 n c5)] 43 (0, 0))) := ⟨(blk_below BKga.out (below_drew1 (Below.refl w7.heap.size w7)))⟩
            clear HB HT BKga
            have HB := n0_
            have HT := n1_
            have BKga := n2_
            clear n0_ n1_ n2_
            refine goes_ Try.func13 (by kernel_rfl) rfl #[.pointer (some ⟨q, 0, none⟩), .agg #[.int .i64 a.f1.f0, .int .i64 a.f1.f1, .int .i64 a.f1.f2]] (by rfl) rfl rfl (by simp only [List.map_toArray, List.map_cons, List.map_nil]; rfl) ?_
            with_reducible refine (Two.qdrop HT.out a.f1 HWC.out).mono ?_
            rintro e w8 ⟨rfl, hq, hk⟩
            refine ⟨_, rfl, ?_⟩
            have n0_ : Aside0 (Two (More (fun k => w.heap.size ≤ k ∧ k < KB) w7.drew) w8 q db (dropL r.1 a.f1) r.1 r.2 r.2 i) := ⟨hq⟩
            have n1_ : Aside0 (Below w.heap.size w w8) := ⟨HB.out.trans (hk.below HB.out.size (fun k h => by exact h.1))⟩
            have n2_ : Aside0 (w8.heap[ga]? = some (.cells #[(.int .i64 a.f0), (.int .i64 a.f1.f0), (.int .i64 a.f1.f1), (.int .i64 a.f1.f2), (.int .i64 a.f2), (.slice A5 n c5)] 43 (0, 0))) := ⟨hk.blk BKga.out (fun h => by have := GA.out; have := HKE.out; omega)⟩
            have Sw8 : Aside0 (w7.drew.heap.size ≤ w8.heap.size) := ⟨hk.size⟩
            have L7 : Aside0 (ga < w7.drew.heap.size ∧ w.heap.size ≤ w7.drew.heap.size) := ⟨blk_lt BKga.out, HB.out.size⟩
            clear HT HB BKga hq hk
            have HT := n0_
            have HB := n1_
            have BKga := n2_
            clear n0_ n1_ n2_
            refine hK.out _ _ ⟨(blk_cell BKga.out 1).trans rfl, (blk_cell BKga.out 2).trans rfl, (blk_cell BKga.out 3).trans rfl⟩ (fun hHeld => ?_)
            clear hK K
            refine norm_ (a' := ?_) ?_ ?_
            rotate_left
            · show Act.put _ (some 47) _ = _
              simp only [Act.put, List.setIfInBounds_toArray, List.set_cons_zero, List.set_cons_succ, i64_w, i32_w]
              rfl
            refine last_ (i := 7) (N := some 51) #[true, true, true, true, true, true, true, true, false] rfl rfl (by kernel_rfl) (by decide) (fun K hK => ?_)
            refine goes_ Try.func19 (by kernel_rfl) rfl #[.pointer (some ⟨db, 0, none⟩), .agg #[.int .i64 a.f1.f0, .int .i64 a.f1.f1, .int .i64 a.f1.f2]] (by rfl) rfl rfl (by simp only [List.map_toArray, List.map_cons, List.map_nil]; rfl) ?_
            with_reducible refine (Two.ddrop HT.out HUR.out a.f1 (by have := HPL.out; omega)).mono ?_
            rintro e w9 ⟨rfl, hq, hk⟩
            refine ⟨_, rfl, ?_⟩
            have n0_ : Aside0 (Two (More (More (fun k => w.heap.size ≤ k ∧ k < KB) w7.drew) w8) w9 q db (dropL r.1 a.f1) (dropL r.1 a.f1) r.2 r.2 i) := ⟨hq⟩
            have n1_ : Aside0 (Below w.heap.size w w9) := ⟨HB.out.trans (hk.below HB.out.size (fun k h => by have := L7.out; rcases h with h | h <;> omega))⟩
            have n2_ : Aside0 (w9.heap[ga]? = some (.cells #[(.int .i64 a.f0), (.int .i64 a.f1.f0), (.int .i64 a.f1.f1), (.int .i64 a.f1.f2), (.int .i64 a.f2), (.slice A5 n c5)] 43 (0, 0))) := ⟨hk.blk BKga.out (fun h => by have := GA.out; have := HKE.out; have := L7.out; rcases h with h | h <;> omega)⟩
            have Sw9 : Aside0 (w8.heap.size ≤ w9.heap.size) := ⟨hk.size⟩
            clear HT HB BKga hq hk
            have HT := n0_
            have HB := n1_
            have BKga := n2_
            clear n0_ n1_ n2_
            refine hK.out _ _ ?_
            clear hK K
            refine norm_ (a' := ?_) ?_ ?_
            rotate_left
            · show Act.put _ (some 51) _ = _
              simp only [Act.put, List.setIfInBounds_toArray, List.set_cons_zero, List.set_cons_succ, i64_w, i32_w]
              rfl
            refine pure_ (i := 8) (N := some 52) (v := ?_) (a' := ?_) #[true, true, true, true, true, true, true, true, true] rfl rfl (by kernel_rfl) (fun _ _ _ h => h) (Or.inl ⟨by rfl, ?_⟩) ?_ ?_
            rotate_left
            · intro w'
              go_simp
              with_reducible rfl
            rotate_left
            · simp only [Act.put, List.setIfInBounds_toArray, List.set_cons_zero, List.set_cons_succ, i64_w, i32_w]
              rfl
            refine done_ (by kernel_rfl) ?_
            have hga0 : w9.cell? ⟨ga, 0, none⟩ = some (.int .i64 a.f0) := (blk_cell BKga.out 0).trans rfl
            have hga1 : w9.cell? ⟨ga, 1, none⟩ = some (.int .i64 a.f1.f0) := (blk_cell BKga.out 1).trans rfl
            have hga2 : w9.cell? ⟨ga, 2, none⟩ = some (.int .i64 a.f1.f1) := (blk_cell BKga.out 2).trans rfl
            have hga3 : w9.cell? ⟨ga, 3, none⟩ = some (.int .i64 a.f1.f2) := (blk_cell BKga.out 3).trans rfl
            have hga4 : w9.cell? ⟨ga, 4, none⟩ = some (.int .i64 a.f2) := (blk_cell BKga.out 4).trans rfl
            have hga5 : w9.cell? ⟨ga, 5, none⟩ = some (.slice A5 n c5) := (blk_cell BKga.out 5).trans rfl
            go_wp2_with (go_at_call 22; clear hga0 hga1 hga2 hga3 hga4 hga5; have hs : runP (xs.take (i + 1)) = (dropL r.1 a.f1, r.2) := (by rw [HST.out]; unfold stepP; rw [if_neg K1.out, if_pos K2.out]); have hT2 := HT.out.grow (m2 := i + 1) (by omega); have e1 : (dropL r.1 a.f1, r.2).1 = (runP (xs.take (i + 1))).1 := (by rw [hs]); have e2 : (dropL r.1 a.f1, r.2).2 = (runP (xs.take (i + 1))).2 := (by rw [hs]); (try dsimp only at e1 e2); rw [e1, e2] at hT2; (with_reducible refine (looks_calls _ _ q db (i + 1) _ _ hT2 HPN.out.1 (by have := HPL.out; omega) HPN.out.2 a.f1 HWC.out).mono ?_); rintro e wz ⟨rfl, hq, hk⟩; have HTZ : Aside0 (Two (fun k => w.heap.size ≤ k) wz q db (runP (xs.take (i + 1))).1 (runP (xs.take (i + 1))).1 (runP (xs.take (i + 1))).2 (runP (xs.take (i + 1))).2 (i + 1)) := ⟨hq.mono (fun k h _ => by have := HB.out.size; have := HKN.out; show w.heap.size ≤ k; have := L7.out; have := Sw8.out; have := Sw9.out; rcases h with ((h | h) | h) | h <;> omega)⟩; have HBZ : Aside0 (Below w.heap.size w wz) := ⟨HB.out.trans (hk.below HB.out.size (fun k h => by have := HB.out.size; have := HKN.out; have := L7.out; have := Sw8.out; rcases h with (h | h) | h <;> omega))⟩; clear hq hk hs hT2 e1 e2)
            go_roundg (xs.length - i)
            case measure => have := HGG.out; have := HIL.out; omega
            case rel =>
              have he : wrap64 (x5 + 1) = ((i + 1 : Nat) : Int) := by have := HI.out.1; have := HPL.out; rw [w64 (by omega) (by omega)]; omega
              exact ⟨wrap64 (x5 + 1), i + 1, rfl, by have := HIL.out; omega, ⟨he, HIL.out⟩, HTZ, HBZ⟩
          · have K2 := Aside0.mk k2
            have k2b : (a.f0 == 2) = false := by rw [beq_eq_false_iff_ne]; exact k2
            clear k2
            by_cases k3 : a.f0 = 3
            · have K3 := Aside0.mk k3
              have k3b : (a.f0 == 3) = true := by rw [k3]; rfl
              clear k3
              have HUR := Aside0.mk HT.out.uniq
              go_wp2_with (first | ((with_reducible refine gate_dst (N := 6) rfl ?_); refine box_event ?hg (N := 6) ?hd (cs := #[(.int .i64 0), (.int .i64 0), (.int .i64 0), (.int .i64 0), (.int .i64 0), (.slice none 0 0)]) (t := 43) ?hr ?_; (case hd => rfl); (case hg => rfl); (case hr => first | (go_simp; done) | (go_simp; rfl)); intro ga hgx w6 hbox hb; have HBX := Aside0.mk hb; have GEX : Aside0 (wr.heap.size ≤ ga) := ⟨by rw [hgx]; exact Nat.le_refl _⟩; have BKX := Aside0.mk hbox; clear hbox hb hgx; have hzx0 : w6.cell? ⟨ga, 0, none⟩ = some (.int .i64 0) := (blk_cell BKX.out 0).trans rfl; have hzx1 : w6.cell? ⟨ga, 1, none⟩ = some (.int .i64 0) := (blk_cell BKX.out 1).trans rfl; have hzx2 : w6.cell? ⟨ga, 2, none⟩ = some (.int .i64 0) := (blk_cell BKX.out 2).trans rfl; have hzx3 : w6.cell? ⟨ga, 3, none⟩ = some (.int .i64 0) := (blk_cell BKX.out 3).trans rfl; have hzx4 : w6.cell? ⟨ga, 4, none⟩ = some (.int .i64 0) := (blk_cell BKX.out 4).trans rfl; have hzx5 : w6.cell? ⟨ga, 5, none⟩ = some (.slice none 0 0) := (blk_cell BKX.out 5).trans rfl; have hzf0 := blk_frozen BKX.out 0; have hzf1 := blk_frozen BKX.out 1; have hzf2 := blk_frozen BKX.out 2; have hzf3 := blk_frozen BKX.out 3; have hzf4 := blk_frozen BKX.out 4; have hzf5 := blk_frozen BKX.out 5) | ((with_reducible refine gate_dst (N := 55) rfl ?_); clear hzx0 hzf0 hzx1 hzf1 hzx2 hzf2 hzx3 hzf3 hzx4 hzf4 hzx5 hzf5; have hbw : Below wr.heap.size wr ((((((w6.setCell ⟨ga, 0, none⟩ (.int .i64 a.f0)).setCell ⟨ga, 1, none⟩ (.int .i64 a.f1.f0)).setCell ⟨ga, 2, none⟩ (.int .i64 a.f1.f1)).setCell ⟨ga, 3, none⟩ (.int .i64 a.f1.f2)).setCell ⟨ga, 4, none⟩ (.int .i64 a.f2)).setCell ⟨ga, 5, none⟩ (.slice A5 n c5)) := below_set (below_set (below_set (below_set (below_set (below_set (HBX.out) GEX.out) GEX.out) GEX.out) GEX.out) GEX.out) GEX.out; have n0_ : Aside0 (Below w.heap.size w ((((((w6.setCell ⟨ga, 0, none⟩ (.int .i64 a.f0)).setCell ⟨ga, 1, none⟩ (.int .i64 a.f1.f0)).setCell ⟨ga, 2, none⟩ (.int .i64 a.f1.f1)).setCell ⟨ga, 3, none⟩ (.int .i64 a.f1.f2)).setCell ⟨ga, 4, none⟩ (.int .i64 a.f2)).setCell ⟨ga, 5, none⟩ (.slice A5 n c5))) := ⟨(below_step HB.out hbw)⟩; have n1_ : Aside0 (Two (fun k => w.heap.size ≤ k ∧ k < KB) ((((((w6.setCell ⟨ga, 0, none⟩ (.int .i64 a.f0)).setCell ⟨ga, 1, none⟩ (.int .i64 a.f1.f0)).setCell ⟨ga, 2, none⟩ (.int .i64 a.f1.f1)).setCell ⟨ga, 3, none⟩ (.int .i64 a.f1.f2)).setCell ⟨ga, 4, none⟩ (.int .i64 a.f2)).setCell ⟨ga, 5, none⟩ (.slice A5 n c5)) q db r.1 r.1 r.2 r.2 i) := ⟨(Two.below HT.out hbw)⟩; clear HB HT; have HB := n0_; have HT := n1_; clear n0_ n1_; have BKga : Aside0 (((((((w6.setCell ⟨ga, 0, none⟩ (.int .i64 a.f0)).setCell ⟨ga, 1, none⟩ (.int .i64 a.f1.f0)).setCell ⟨ga, 2, none⟩ (.int .i64 a.f1.f1)).setCell ⟨ga, 3, none⟩ (.int .i64 a.f1.f2)).setCell ⟨ga, 4, none⟩ (.int .i64 a.f2)).setCell ⟨ga, 5, none⟩ (.slice A5 n c5)).heap[ga]? = some (.cells #[(.int .i64 a.f0), (.int .i64 a.f1.f0), (.int .i64 a.f1.f1), (.int .i64 a.f1.f2), (.int .i64 a.f2), (.slice A5 n c5)] 43 (0, 0))) := ⟨by refine blk_put (cs := #[(.int .i64 a.f0), (.int .i64 a.f1.f0), (.int .i64 a.f1.f1), (.int .i64 a.f1.f2), (.int .i64 a.f2), (.slice none 0 0)]) ?_ 5 _ rfl; refine blk_put (cs := #[(.int .i64 a.f0), (.int .i64 a.f1.f0), (.int .i64 a.f1.f1), (.int .i64 a.f1.f2), (.int .i64 0), (.slice none 0 0)]) ?_ 4 _ rfl; refine blk_put (cs := #[(.int .i64 a.f0), (.int .i64 a.f1.f0), (.int .i64 a.f1.f1), (.int .i64 0), (.int .i64 0), (.slice none 0 0)]) ?_ 3 _ rfl; refine blk_put (cs := #[(.int .i64 a.f0), (.int .i64 a.f1.f0), (.int .i64 0), (.int .i64 0), (.int .i64 0), (.slice none 0 0)]) ?_ 2 _ rfl; refine blk_put (cs := #[(.int .i64 a.f0), (.int .i64 0), (.int .i64 0), (.int .i64 0), (.int .i64 0), (.slice none 0 0)]) ?_ 1 _ rfl; refine blk_put (cs := #[(.int .i64 0), (.int .i64 0), (.int .i64 0), (.int .i64 0), (.int .i64 0), (.slice none 0 0)]) ?_ 0 _ rfl; exact BKX.out⟩; have GA : Aside0 (wr.heap.size ≤ ga) := ⟨GEX.out⟩; clear hbw BKX HBX GEX; generalize ((((((w6.setCell ⟨ga, 0, none⟩ (.int .i64 a.f0)).setCell ⟨ga, 1, none⟩ (.int .i64 a.f1.f0)).setCell ⟨ga, 2, none⟩ (.int .i64 a.f1.f1)).setCell ⟨ga, 3, none⟩ (.int .i64 a.f1.f2)).setCell ⟨ga, 4, none⟩ (.int .i64 a.f2)).setCell ⟨ga, 5, none⟩ (.slice A5 n c5)) = w7 at HB HT BKga ⊢; have hgb5 : (w7.alloc (.cells #[] 46)).cell? ⟨ga, 5, none⟩ = some (.slice A5 n c5) := pw_cell_below (below_alloc (Below.refl _ _) _) ((blk_cell BKga.out 5).trans rfl)) | (at_builtin; (refine Kd.R_append_rows k46 (Rr := k46.K w7) (w0 := w7) (W := w7.alloc (.cells #[] 46)) 0 rfl (.tmp 55) (.tmp 57) 39 46 (.agg #[.int .i64 0, .int .i64 0, .int .i64 0, .int .i64 0, .int .i64 0]) 40 rfl Try.underlying39 info46 rfl (by decide) (by omega) (.slice (some ⟨w7.heap.size, 0, none⟩) 0 0) [] a.f3 A5 n c5 (fun k => w7.heap.size ≤ k) (fun _ => False) ?hv rfl (R_empty w7 _ (Nat.le_refl _)) (Kd.C_alloc (Kd.C_below HC5.out HB.out) _) ?hkm (fun _ hk => hk.elim) (fun k hk => ?hfr) ((Below.refl 0 w7).alloc (Nat.zero_le _) _) (Nat.zero_le _) (by have := HWA.out.2; have := HN.out; simp; omega) ?_); (case hv => rfl); (case hkm => intro x cs hx; obtain rfl := k46_open hx; exact k46_mkM _ _ _ x); (case hfr => exact Nat.le_trans (Nat.le_of_lt (by simp)) hk); intro v1 w8 hR hb hg hat; have hb_ : Below w7.heap.size w7 w8 := (below_alloc (Below.refl _ _) _).grown hg (by simp) (fun k hk => by simp [Value.ownBlock] at hk; omega); have HR1 : Aside0 (Kd.R k46 46 w8 0 (fun k => w7.heap.size ≤ k) v1 a.f3) := ⟨hR⟩; have L7 : Aside0 (KB ≤ w7.heap.size ∧ w7.heap.size ≤ w8.heap.size ∧ ga < w7.heap.size) := ⟨by have := blk_lt BKga.out; have := GA.out; have := HKE.out; omega, hb_.size, blk_lt BKga.out⟩; clear hR hb hg hat; have n0_ : Aside0 (Below w.heap.size w w8) := ⟨(below_step HB.out hb_)⟩; have n1_ : Aside0 (Two (fun k => w.heap.size ≤ k ∧ k < KB) w8 q db r.1 r.1 r.2 r.2 i) := ⟨(Two.below HT.out hb_)⟩; have n2_ : Aside0 (w8.heap[ga]? = some (.cells #[(.int .i64 a.f0), (.int .i64 a.f1.f0), (.int .i64 a.f1.f1), (.int .i64 a.f1.f2), (.int .i64 a.f2), (.slice A5 n c5)] 43 (0, 0))) := ⟨(blk_below BKga.out hb_)⟩; clear HB HT BKga; have HB := n0_; have HT := n1_; have BKga := n2_; clear n0_ n1_ n2_; clear hb_; obtain ⟨B1, bc1, ev⟩ := Kd.R_slice HR1.out; subst ev; rw [HN.out] at HR1 ⊢; clear hgb5) | (at_builtin; (refine Kd.R_append k46 (w0 := w8) (W := w8) 0 rfl (.tmp 58) (.tmp 60) 39 46 (.agg #[.int .i64 0, .int .i64 0, .int .i64 0, .int .i64 0, .int .i64 0]) 40 rfl Try.underlying39 info46 rfl (by decide) (by omega) (.slice B1 n bc1) a.f3 ⟨-77, 0, 0, 0, 0⟩ [.int .i64 (-77), .int .i64 0, .int .i64 0, .int .i64 0, .int .i64 0] (fun k => w7.heap.size ≤ k) (fun _ => False) rfl ?hx (k46_mkM _ _ _ ⟨-77, 0, 0, 0, 0⟩) (fun _ hk => hk.elim) (fun k hk => Nat.le_trans L7.out.2.1 hk) HR1.out (Below.refl 0 w8) (Nat.zero_le _) (by have := HWA.out.2; omega) ?_); (case hx => first | rfl | (go_simp; done) | (go_simp; rfl)); intro v2 w9 hR hb hg hat; have hown : ∀ k, (Value.slice B1 n bc1).ownBlock = some k → w7.heap.size ≤ k := fun k e => HR1.out.1 k e; have n0_ : Aside0 (Below w.heap.size w w9) := ⟨HB.out.grown hg HB.out.size (fun k e => by have := hown k e; have := L7.out; have := HKN.out; omega)⟩; have n1_ : Aside0 (Two (fun k => w.heap.size ≤ k ∧ k < KB) w9 q db r.1 r.1 r.2 r.2 i) := ⟨HT.out.move hg.size (fun k hF hk => hg.block k hk (fun e => by have := hown k e.symm; have := L7.out; have := hF.2; omega))⟩; have n2_ : Aside0 (w9.heap[ga]? = some (.cells #[(.int .i64 a.f0), (.int .i64 a.f1.f0), (.int .i64 a.f1.f1), (.int .i64 a.f1.f2), (.int .i64 a.f2), (.slice A5 n c5)] 43 (0, 0))) := ⟨(hg.block ga (blk_lt BKga.out) (fun e => by have := hown ga e.symm; have := L7.out; omega)).trans BKga.out⟩; obtain ⟨la, hla⟩ : ∃ la, a.f3 ++ ([⟨-77, 0, 0, 0, 0⟩] : List S46) = la := ⟨_, rfl⟩; rw [hla] at hR; have HLA := Aside0.mk hla; have hll : la.length = n + 1 := (by rw [← hla, List.length_append, HN.out]; rfl); obtain ⟨g, bc, hv, _, _, _⟩ := Kd.R_form hR (by rw [hll]; exact Nat.succ_pos n); rw [hll] at hv; obtain ⟨n1, hn1⟩ : ∃ n1, n + 1 = n1 := ⟨_, rfl⟩; rw [hn1] at hv; subst hv; have HN1 := Aside0.mk hn1; have HLL : Aside0 (la.length = n1) := ⟨by rw [hll, hn1]⟩; obtain ⟨KC, hKC⟩ : ∃ KC, w9.heap.size = KC := ⟨_, rfl⟩; have HLR : Aside0 (Kd.R k46 46 w9 0 (fun k => KB ≤ k ∧ k < KC) (.slice (some ⟨g, 0, none⟩) n1 bc) la) := ⟨by rw [← hKC]; exact Kd.R_mono (Kd.R_bound hR) (fun k hk => ⟨Nat.le_trans L7.out.1 hk.1, hk.2.2.1⟩)⟩; have L9 : Aside0 (KB ≤ KC ∧ ga < KC ∧ w9.heap.size = KC) := ⟨by have := L7.out; have := hg.size; omega⟩; clear hla hll hn1 hKC hR hb hg hat hown HR1 HB HT BKga L7; have HB := n0_; have HT := n1_; have BKga := n2_; clear n0_ n1_ n2_; obtain ⟨i0, hi0, _, hsz, _⟩ := info_parts info46; have hbn : n ≤ n1 ∧ n1 ≤ bc := ⟨by have := HN1.out; omega, (Kd.R_reads' HLR.out).2.1⟩; have hcutA := cut_to (P := Try.prog) 39 46 .i64 Try.underlying39 hi0 (some ⟨g, 0, none⟩) n1 bc (n : Int) (by omega) (by omega) hbn.2; rw [Int.toNat_natCast] at hcutA; have HCT : Aside0 (Kd.C k46 w9 (some ⟨g, 0, none⟩) n a.f3) := ⟨by have hz := Kd.C_take (m := n) (k := k46) (w := w9) (A := some ⟨g, 0, none⟩) (xs := la) ((Kd.R_reads' HLR.out).2.2) (by have := HLL.out; have := HN1.out; omega); rw [← HLA.out, List.take_left' HN.out] at hz; rwa [HN.out] at hz⟩; clear hi0 hsz hbn; have hga0 : w9.cell? ⟨ga, 0, none⟩ = some (.int .i64 a.f0) := (blk_cell BKga.out 0).trans rfl; have hga1 : w9.cell? ⟨ga, 1, none⟩ = some (.int .i64 a.f1.f0) := (blk_cell BKga.out 1).trans rfl; have hga2 : w9.cell? ⟨ga, 2, none⟩ = some (.int .i64 a.f1.f1) := (blk_cell BKga.out 2).trans rfl; have hga3 : w9.cell? ⟨ga, 3, none⟩ = some (.int .i64 a.f1.f2) := (blk_cell BKga.out 3).trans rfl; have hga4 : w9.cell? ⟨ga, 4, none⟩ = some (.int .i64 a.f2) := (blk_cell BKga.out 4).trans rfl; have hga5 : w9.cell? ⟨ga, 5, none⟩ = some (.slice A5 n c5) := (blk_cell BKga.out 5).trans rfl) | (go_at_call 20; clear hcutA; clear hga0 hga1 hga2 hga3 hga4 hga5; (with_reducible refine (Two.qsee HT.out (some ⟨g, 0, none⟩) n bc a.f3 HCT.out (by have := HWA.out.2; have := HN.out; omega) (by have := HPL.out; omega)).mono ?_); rintro e w10 ⟨rfl, hq, hk⟩; have n0_ : Aside0 (Two (More (fun k => w.heap.size ≤ k ∧ k < KB) w9) w10 q db r.1 r.1 a.f3 r.2 r.1.length) := ⟨hq⟩; have n1_ : Aside0 (Below w.heap.size w w10) := ⟨HB.out.trans (hk.below HB.out.size (fun k h => by exact h.1))⟩; have n2_ : Aside0 (w10.heap[ga]? = some (.cells #[(.int .i64 a.f0), (.int .i64 a.f1.f0), (.int .i64 a.f1.f1), (.int .i64 a.f1.f2), (.int .i64 a.f2), (.slice A5 n c5)] 43 (0, 0))) := ⟨hk.blk BKga.out (fun h => by have := GA.out; have := HKE.out; have := L9.out; omega)⟩; have Sw10 : Aside0 (w9.heap.size ≤ w10.heap.size) := ⟨hk.size⟩; have n3_ : Aside0 (Kd.R k46 46 w10 0 (fun k => KB ≤ k ∧ k < KC) (.slice (some ⟨g, 0, none⟩) n1 bc) la) := ⟨hk.R HLR.out (fun k h1 h => by have := L9.out; omega)⟩; clear HT HB BKga HLR hq hk; have HT := n0_; have HB := n1_; have BKga := n2_; have HLR := n3_; clear n0_ n1_ n2_ n3_; clear HCT; have hga0 : w10.cell? ⟨ga, 0, none⟩ = some (.int .i64 a.f0) := (blk_cell BKga.out 0).trans rfl; have hga1 : w10.cell? ⟨ga, 1, none⟩ = some (.int .i64 a.f1.f0) := (blk_cell BKga.out 1).trans rfl; have hga2 : w10.cell? ⟨ga, 2, none⟩ = some (.int .i64 a.f1.f1) := (blk_cell BKga.out 2).trans rfl; have hga3 : w10.cell? ⟨ga, 3, none⟩ = some (.int .i64 a.f1.f2) := (blk_cell BKga.out 3).trans rfl; have hga4 : w10.cell? ⟨ga, 4, none⟩ = some (.int .i64 a.f2) := (blk_cell BKga.out 4).trans rfl; have hga5 : w10.cell? ⟨ga, 5, none⟩ = some (.slice A5 n c5) := (blk_cell BKga.out 5).trans rfl) | (go_at_call 21; clear hga0 hga1 hga2 hga3 hga4 hga5; (with_reducible refine (Two.dsee HT.out A5 n c5 a.f3 (Kd.C_below HC5.out HB.out) (by have := HWA.out.2; have := HN.out; omega)).mono ?_); rintro e w11 ⟨rfl, hq, hk⟩; have n0_ : Aside0 (Two (More (More (fun k => w.heap.size ≤ k ∧ k < KB) w9) w10) w11 q db r.1 r.1 a.f3 a.f3 r.1.length) := ⟨hq⟩; have n1_ : Aside0 (Below w.heap.size w w11) := ⟨HB.out.trans (hk.below HB.out.size (fun k h => by have := L9.out; have := HKN.out; rcases h with h | h <;> omega))⟩; have n2_ : Aside0 (w11.heap[ga]? = some (.cells #[(.int .i64 a.f0), (.int .i64 a.f1.f0), (.int .i64 a.f1.f1), (.int .i64 a.f1.f2), (.int .i64 a.f2), (.slice A5 n c5)] 43 (0, 0))) := ⟨hk.blk BKga.out (fun h => by have := GA.out; have := HKE.out; have := L9.out; rcases h with h | h <;> omega)⟩; have Sw11 : Aside0 (w10.heap.size ≤ w11.heap.size) := ⟨hk.size⟩; have n3_ : Aside0 (Kd.R k46 46 w11 0 (fun k => KB ≤ k ∧ k < KC) (.slice (some ⟨g, 0, none⟩) n1 bc) la) := ⟨hk.R HLR.out (fun k h1 h => by have := L9.out; rcases h with h | h <;> omega)⟩; clear HT HB BKga HLR hq hk; have HT := n0_; have HB := n1_; have BKga := n2_; have HLR := n3_; clear n0_ n1_ n2_ n3_; have hga0 : w11.cell? ⟨ga, 0, none⟩ = some (.int .i64 a.f0) := (blk_cell BKga.out 0).trans rfl; have hga1 : w11.cell? ⟨ga, 1, none⟩ = some (.int .i64 a.f1.f0) := (blk_cell BKga.out 1).trans rfl; have hga2 : w11.cell? ⟨ga, 2, none⟩ = some (.int .i64 a.f1.f1) := (blk_cell BKga.out 2).trans rfl; have hga3 : w11.cell? ⟨ga, 3, none⟩ = some (.int .i64 a.f1.f2) := (blk_cell BKga.out 3).trans rfl; have hga4 : w11.cell? ⟨ga, 4, none⟩ = some (.int .i64 a.f2) := (blk_cell BKga.out 4).trans rfl; have hga5 : w11.cell? ⟨ga, 5, none⟩ = some (.slice A5 n c5) := (blk_cell BKga.out 5).trans rfl))
              clear hga0 hga1 hga2 hga3 hga4 hga5
              replace HT : Aside0 (Two (fun k => (w.heap.size ≤ k ∧ k < KB) ∨ KC ≤ k) w11 q db r.1 r.1 a.f3 a.f3 r.1.length) := ⟨HT.out.mono (fun k h _ => by have := L9.out; have := Sw10.out; rcases h with (h | h) | h <;> omega)⟩
              have L11 : Aside0 (KC ≤ w11.heap.size) := ⟨by have := L9.out; have := Sw10.out; have := Sw11.out; omega⟩
              have HKK : Aside0 (KB ≤ KC ∧ ga < KC ∧ KB ≤ ga) := ⟨by have := L9.out; have := GA.out; have := HKE.out; omega⟩
              clear Sw10 Sw11 L9
              obtain ⟨ys, hys⟩ : ∃ ys, a.f3 = ys := ⟨_, rfl⟩
              rw [hys] at HN HC5 HT HLA HWA
              have HYS := Aside0.mk hys
              clear hys
              go_loopg [8] (n + 1) (fun gg v8 wr => ∃ (x8 : Int) (k : Nat), v8 = .int .i64 x8 ∧ n - k + 1 ≤ gg ∧ Aside0 (x8 = (k : Int) ∧ k ≤ n) ∧ Aside0 (Below w.heap.size w wr) ∧ Aside0 (Two (fun k => (w.heap.size ≤ k ∧ k < KB) ∨ KC ≤ k) wr q db r.1 r.1 ys ys r.1.length) ∧ Aside0 (wr.heap[ga]? = some (.cells #[(.int .i64 a.f0), (.int .i64 a.f1.f0), (.int .i64 a.f1.f1), (.int .i64 a.f1.f2), (.int .i64 a.f2), (.slice A5 n c5)] 43 (0, 0))) ∧ Aside0 (Kd.R k46 46 wr 0 (fun k => KB ≤ k ∧ k < KC) (.slice (some ⟨g, 0, none⟩) n1 bc) (fillA la k)) ∧ Aside0 (KC ≤ wr.heap.size))
              case atStart => exact ⟨0, 0, rfl, by omega, ⟨rfl, Nat.zero_le _⟩, HB, HT, BKga, HLR, L11⟩
              case round =>
                have HI5 := HI
                have HGG5 := HGG
                clear HI HGG HB HT BKga HLR L11 GA HKE
                obtain ⟨x8, k, rfl, hgg, HI, HB, HT, BKga, HLR, HM⟩ := hrel
                have HGG := Aside0.mk hgg
                clear hgg
                by_cases d2 : x8 < (n : Int)
                · have d2b : decide (x8 < (n : Int)) = true := decide_eq_true d2
                  have d3 : 0 ≤ x8 := by have := HI.out.1; omega
                  have d3b : decide (0 ≤ x8) = true := decide_eq_true d3
                  have d4 : x8 < (n1 : Int) := by have := HN1.out; omega
                  have d4b := decide_eq_true d4
                  have d2t := eq_true d2
                  have d3t := eq_true d3
                  have d4t := eq_true d4
                  have hkn : k < n := by have := HI.out.1; omega
                  have HKL := Aside0.mk hkn
                  obtain ⟨ad5, hA, hy0, hy1, hy2, hy3, hy4⟩ := at_T46 (Kd.C_below HC5.out HB.out) x8 d3 d2
                  cases hA
                  obtain ⟨y, hy⟩ : ∃ y, rd_T46 ys x8 = y := ⟨_, rfl⟩
                  rw [hy] at hy0 hy1 hy2 hy3 hy4
                  obtain ⟨he, _⟩ := el46 HLR.out x8 d3 d4
                  have hly : (fillA la k).getD x8.toNat z46 = y := by rw [HI.out.1, Int.toNat_natCast, ← HLA.out, rdA_fill (by have := HN.out; omega), ← hy, HI.out.1]; exact (rd46 ys k (by have := HN.out; omega)).symm
                  rw [hly] at he
                  have hz0 : wr.cell? ⟨g, x8.toNat * 5, none⟩ = some (.int .i64 y.f0) := he 0 _ rfl
                  have hz1 : wr.cell? ⟨g, x8.toNat * 5 + 1, none⟩ = some (.int .i64 y.f1) := he 1 _ rfl
                  have hz2 : wr.cell? ⟨g, x8.toNat * 5 + 2, none⟩ = some (.int .i64 y.f2) := he 2 _ rfl
                  have hz3 : wr.cell? ⟨g, x8.toNat * 5 + 3, none⟩ = some (.int .i64 y.f3) := he 3 _ rfl
                  have hz4 : wr.cell? ⟨g, x8.toNat * 5 + 4, none⟩ = some (.int .i64 y.f4) := he 4 _ rfl
                  have hga5 : wr.cell? ⟨ga, 5, none⟩ = some (.slice (some ad5) n c5) := (blk_cell BKga.out 5).trans rfl
                  obtain ⟨c46, hcl, _, hcc, _⟩ := Kd.R_elem HLR.out z46 x8 d3 d4
                  have HCLN := Aside0.mk hcl
                  have HCC := Aside0.mk hcc
                  have HX0 := Aside0.mk d3
                  have HX1 := Aside0.mk d4
                  have HKN2 := HKN
                  clear hcl hcc he hly hy d3 d4 hkn
                  go_wp2
                  refine start_ (n := 10) (S := fun w' => w'.cell? ⟨ga, 5, none⟩ = some (.slice (some ad5) n c5) ∧ w'.cell? ⟨g, x8.toNat * 5, none⟩ = some (.int .i64 y.f0) ∧ w'.cell? ⟨g, x8.toNat * 5 + 1, none⟩ = some (.int .i64 y.f1) ∧ w'.cell? ⟨g, x8.toNat * 5 + 2, none⟩ = some (.int .i64 y.f2) ∧ w'.cell? ⟨g, x8.toNat * 5 + 3, none⟩ = some (.int .i64 y.f3) ∧ w'.cell? ⟨g, x8.toNat * 5 + 4, none⟩ = some (.int .i64 y.f4) ∧ w'.cell? (ad5.add (x8.toNat * 5)) = some (.int .i64 y.f0) ∧ w'.cell? ⟨(ad5.add (x8.toNat * 5)).block, (ad5.add (x8.toNat * 5)).off + 1, none⟩ = some (.int .i64 y.f1) ∧ w'.cell? ⟨(ad5.add (x8.toNat * 5)).block, (ad5.add (x8.toNat * 5)).off + 2, none⟩ = some (.int .i64 y.f2) ∧ w'.cell? ⟨(ad5.add (x8.toNat * 5)).block, (ad5.add (x8.toNat * 5)).off + 3, none⟩ = some (.int .i64 y.f3) ∧ w'.cell? ⟨(ad5.add (x8.toNat * 5)).block, (ad5.add (x8.toNat * 5)).off + 4, none⟩ = some (.int .i64 y.f4)) (ds := []) #[false, false, false, false, false, false, false, false, false, false] (by kernel_rfl) rfl rfl ⟨hga5, hz0, hz1, hz2, hz3, hz4, hy0, hy1, hy2, hy3, hy4⟩ (fun hHeld => ?_)
                  refine pure_ (i := 0) (N := some 80) (v := ?_) (a' := ?_) #[true, false, false, false, false, false, false, false, false, false] rfl rfl (by kernel_rfl) (fun _ _ _ h => h) (Or.inl ⟨by rfl, ?_⟩) ?_ ?_
                  rotate_left
                  · intro w'
                    go_simp
                    with_reducible rfl
                  rotate_left
                  · simp only [Act.put, List.setIfInBounds_toArray, List.set_cons_zero, List.set_cons_succ, i64_w, i32_w]
                    rfl
                  refine pure_ (i := 1) (N := some 81) (v := ?_) (a' := ?_) #[true, true, false, false, false, false, false, false, false, false] rfl rfl (by kernel_rfl) (fun _ _ _ h => h) (Or.inl ⟨by rfl, ?_⟩) ?_ ?_
                  rotate_left
                  · intro w'
                    go_simp
                    with_reducible rfl
                  rotate_left
                  · simp only [Act.put, List.setIfInBounds_toArray, List.set_cons_zero, List.set_cons_succ, i64_w, i32_w]
                    rfl
                  refine pure_ (i := 2) (N := some 82) (v := ?_) (a' := ?_) #[true, true, true, false, false, false, false, false, false, false] rfl rfl (by kernel_rfl) (fun _ _ _ h => h) (Or.inl ⟨by rfl, ?_⟩) ?_ ?_
                  rotate_left
                  · intro w'
                    go_simp
                    with_reducible rfl
                  rotate_left
                  · simp only [Act.put, List.setIfInBounds_toArray, List.set_cons_zero, List.set_cons_succ, i64_w, i32_w]
                    rfl
                  refine pure_ (i := 4) (N := some 84) (v := ?_) (a' := ?_) #[true, true, true, false, true, false, false, false, false, false] rfl rfl (by kernel_rfl) (fun _ _ _ h => h) (Or.inl ⟨by rfl, ?_⟩) ?_ ?_
                  rotate_left
                  · intro w'
                    go_simp
                    with_reducible rfl
                  rotate_left
                  · simp only [Act.put, List.setIfInBounds_toArray, List.set_cons_zero, List.set_cons_succ, i64_w, i32_w]
                    rfl
                  refine pure_ (i := 6) (N := some 86) (v := ?_) (a' := ?_) #[true, true, true, false, true, false, true, false, false, false] rfl rfl (by kernel_rfl) (fun _ _ _ h => h) (Or.inl ⟨by rfl, ?_⟩) ?_ ?_
                  rotate_left
                  · intro w'
                    go_simp
                    with_reducible rfl
                  rotate_left
                  · simp only [Act.put, List.setIfInBounds_toArray, List.set_cons_zero, List.set_cons_succ, i64_w, i32_w]
                    rfl
                  refine take_ (i := 3) (N := some 83) (v := ?_) (a' := ?_) #[true, true, true, true, true, false, true, false, false, false] rfl rfl (by kernel_rfl) (fun _ _ _ h => h) (Or.inl ⟨by rfl, ?_⟩) hHeld ?_ ?_
                  rotate_left
                  · rintro w' ⟨s0, s1, s2, s3, s4, s5, s6, s7, s8, s9, s10⟩
                    go_simp
                    with_reducible rfl
                  rotate_left
                  · simp only [Act.put, List.setIfInBounds_toArray, List.set_cons_zero, List.set_cons_succ, i64_w, i32_w]
                    rfl
                  refine take_ (i := 5) (N := some 85) (v := ?_) (a' := ?_) #[true, true, true, true, true, true, true, false, false, false] rfl rfl (by kernel_rfl) (fun _ _ _ h => h) (Or.inl ⟨by rfl, ?_⟩) hHeld ?_ ?_
                  rotate_left
                  · rintro w' ⟨s0, s1, s2, s3, s4, s5, s6, s7, s8, s9, s10⟩
                    go_simp
                    with_reducible rfl
                  rotate_left
                  · simp only [Act.put, List.setIfInBounds_toArray, List.set_cons_zero, List.set_cons_succ, i64_w, i32_w]
                    rfl
                  refine pure_ (i := 7) (N := some 87) (v := ?_) (a' := ?_) #[true, true, true, true, true, true, true, true, false, false] rfl rfl (by kernel_rfl) (fun _ _ _ h => h) (Or.inl ⟨by rfl, ?_⟩) ?_ ?_
                  rotate_left
                  · intro w'
                    go_simp
                    with_reducible rfl
                  rotate_left
                  · simp only [Act.put, List.setIfInBounds_toArray, List.set_cons_zero, List.set_cons_succ, i64_w, i32_w]
                    rfl
                  refine take_ (i := 8) (N := some 88) (v := ?_) (a' := ?_) #[true, true, true, true, true, true, true, true, true, false] rfl rfl (by kernel_rfl) (fun _ _ _ h => h) (Or.inl ⟨by rfl, ?_⟩) hHeld ?_ ?_
                  rotate_left
                  · rintro w' ⟨s0, s1, s2, s3, s4, s5, s6, s7, s8, s9, s10⟩
                    go_simp
                    with_reducible rfl
                  rotate_left
                  · simp only [Act.put, List.setIfInBounds_toArray, List.set_cons_zero, List.set_cons_succ, i64_w, i32_w]
                    rfl
                  refine pure_ (i := 9) (N := some 89) (v := ?_) (a' := ?_) #[true, true, true, true, true, true, true, true, true, true] rfl rfl (by kernel_rfl) (fun _ _ _ h => h) (Or.inl ⟨by rfl, ?_⟩) ?_ ?_
                  rotate_left
                  · intro w'
                    go_simp
                    with_reducible rfl
                  rotate_left
                  · simp only [Act.put, List.setIfInBounds_toArray, List.set_cons_zero, List.set_cons_succ, i64_w, i32_w]
                    rfl
                  refine done_ (by kernel_rfl) ?_
                  clear hga5 hz0 hz1 hz2 hz3 hz4 hy0 hy1 hy2 hy3 hy4
                  have n0_ : Aside0 (Below w.heap.size w wr.drew) := ⟨(below_step HB.out (below_drew1 (Below.refl wr.heap.size wr)))⟩
                  have n1_ : Aside0 (Two (fun k => (w.heap.size ≤ k ∧ k < KB) ∨ KC ≤ k) wr.drew q db r.1 r.1 ys ys r.1.length) := ⟨(Two.below HT.out (below_drew1 (Below.refl wr.heap.size wr)))⟩
                  have n2_ : Aside0 (wr.drew.heap[ga]? = some (.cells #[(.int .i64 a.f0), (.int .i64 a.f1.f0), (.int .i64 a.f1.f1), (.int .i64 a.f1.f2), (.int .i64 a.f2), (.slice (some ad5) n c5)] 43 (0, 0))) := ⟨(blk_below BKga.out (below_drew1 (Below.refl wr.heap.size wr)))⟩
                  have n3_ : Aside0 (Kd.R k46 46 wr.drew 0 (fun k => KB ≤ k ∧ k < KC) (.slice (some ⟨g, 0, none⟩) n1 bc) (fillA la k)) := ⟨(Kd.R_below HLR.out (below_drew1 (Below.refl wr.heap.size wr)))⟩
                  have n4_ : Aside0 (KC ≤ wr.drew.heap.size) := ⟨(Nat.le_trans HM.out (below_drew1 (Below.refl wr.heap.size wr)).size)⟩
                  have n5_ : Aside0 (∀ j u, c46[j]? = some u → wr.drew.cell? ⟨g, x8.toNat * k46.sz + j, none⟩ = some u) := ⟨(fun j u h => pw_cell_below (below_drew1 (Below.refl wr.heap.size wr)) (HCC.out j u h))⟩
                  clear HB HT BKga HLR HM HCC
                  have HB := n0_
                  have HT := n1_
                  have BKga := n2_
                  have HLR := n3_
                  have HM := n4_
                  have HCC := n5_
                  clear n0_ n1_ n2_ n3_ n4_ n5_
                  generalize wr.drew = wp at HB HT BKga HLR HM HCC ⊢
                  go_wp2_with ((with_reducible refine gate_ (.store 46 (.tmp 93) (.tmp 92)) rfl ?_); refine Kd.R_store k46 (w0 := wp) (W := wp) (g := g) (n := n1) (cap := bc) 0 rfl rfl 46 (.tmp 93) (.tmp 92) rfl 46 x8 0 (fillA la k) ⟨-78, 0, 0, 0, 0⟩ (.agg #[.int .i64 (-78), .int .i64 0, .int .i64 0, .int .i64 0, .int .i64 0]) [.int .i64 (-78), .int .i64 0, .int .i64 0, .int .i64 0, .int .i64 0] c46 (fun k => KB ≤ k ∧ k < KC) (fun _ => False) rfl ?hoff rfl rfl ?ht (one5 _ _ _ _ _) HLR.out HX0.out HX1.out HCLN.out HCC.out (by exact Nat.le_refl 5) ?hM (fun _ h => h.elim) (Below.refl 0 wp) ?_; (case hoff => first | rfl | (show _ = x8.toNat * 5 + 0; omega)); (case ht => kernel_rfl); (case hM => have hd : c46.drop 5 = [] := List.drop_eq_nil_of_le (by rw [HCLN.out]; exact Nat.le_refl 5); show k46.M wp 0 _ _ (c46.take 0 ++ [.int .i64 (-78), .int .i64 0, .int .i64 0, .int .i64 0, .int .i64 0] ++ c46.drop 5); rw [hd]; exact k46_mkM _ _ _ ⟨-78, 0, 0, 0, 0⟩); intro w8 hR hb hg; have hgk : KB ≤ g ∧ g < KC := HLR.out.1 g rfl; have hk : Kp wp w8 (fun k => KB ≤ k ∧ k < KC) := Kp.of_grown hg (fun k e => by cases e; exact hgk); have n0_ : Aside0 (Below w.heap.size w w8) := ⟨HB.out.trans (hk.below HB.out.size (fun k h => Nat.le_trans HKN2.out h.1))⟩; have n1_ : Aside0 (Two (fun k => (w.heap.size ≤ k ∧ k < KB) ∨ KC ≤ k) w8 q db r.1 r.1 ys ys r.1.length) := ⟨HT.out.move hk.size (fun k hF hl => hk.block k hl (fun h => by rcases hF with hF | hF <;> omega))⟩; have n2_ : Aside0 (w8.heap[ga]? = some (.cells #[(.int .i64 a.f0), (.int .i64 a.f1.f0), (.int .i64 a.f1.f1), (.int .i64 a.f1.f2), (.int .i64 a.f2), (.slice (some ad5) n c5)] 43 (0, 0))) := ⟨(hg.block ga (blk_lt BKga.out) (fun e => by injection e with e; subst e; exact absurd (Kd.R_typed HLR.out ga rfl) (by rw [BKga.out]; rintro ⟨cells, h⟩; cases h))).trans BKga.out⟩; have n3_ : Aside0 (KC ≤ w8.heap.size) := ⟨Nat.le_trans HM.out hk.size⟩; have n4_ := Aside0.mk hR; clear HB HT BKga HLR HM HCC hR hb hg hgk hk; have HB := n0_; have HT := n1_; have BKga := n2_; have HM := n3_; have HLR := n4_; clear n0_ n1_ n2_ n3_ n4_)
                  go_roundg (n - k)
                  case measure => have := HGG.out; have := HKL.out; omega
                  case rel =>
                    have he : wrap64 (x8 + 1) = ((k + 1 : Nat) : Int) := by have := HI.out.1; have := HWA.out.2; have := HN.out; have := HKL.out; rw [w64 (by omega) (by omega)]; omega
                    refine ⟨wrap64 (x8 + 1), k + 1, rfl, by have := HKL.out; omega, ⟨he, HKL.out⟩, HB, HT, BKga, ⟨?_⟩, HM⟩
                    have h8 := HLR.out
                    rw [HI.out.1, Int.toNat_natCast] at h8
                    exact h8
                · have d2b : decide (x8 < (n : Int)) = false := decide_eq_false d2
                  have d2f := eq_false d2
                  obtain rfl : k = n := by have := HI.out; omega
                  clear d2 HI
                  obtain ⟨he, _⟩ := el46 HLR.out (k : Int) (by omega) (by have := HN1.out; omega)
                  have hly : (fillA la k).getD (k : Int).toNat z46 = ⟨-77, 0, 0, 0, 0⟩ := by rw [Int.toNat_natCast, ← HLA.out, ← HN.out]; exact rdA_end
                  rw [hly, Int.toNat_natCast] at he
                  have he0 : wr.cell? ⟨g, k * 5, none⟩ = some (.int .i64 (-77)) := he 0 _ rfl
                  have k0 : (0 : Int) ≤ (k : Int) := by omega
                  have k1 : (k : Int) < (n1 : Int) := by have := HN1.out; omega
                  have k2 : k < n1 := by omega
                  have k1b := decide_eq_true k1
                  have k2b := decide_eq_true k2
                  have k1t := eq_true k1
                  have k2t := eq_true k2
                  have k0t := eq_true k0
                  clear he hly k1 k2
                  have hga0 : wr.cell? ⟨ga, 0, none⟩ = some (.int .i64 a.f0) := (blk_cell BKga.out 0).trans rfl
                  have hga1 : wr.cell? ⟨ga, 1, none⟩ = some (.int .i64 a.f1.f0) := (blk_cell BKga.out 1).trans rfl
                  have hga2 : wr.cell? ⟨ga, 2, none⟩ = some (.int .i64 a.f1.f1) := (blk_cell BKga.out 2).trans rfl
                  have hga3 : wr.cell? ⟨ga, 3, none⟩ = some (.int .i64 a.f1.f2) := (blk_cell BKga.out 3).trans rfl
                  have hga4 : wr.cell? ⟨ga, 4, none⟩ = some (.int .i64 a.f2) := (blk_cell BKga.out 4).trans rfl
                  have hga5 : wr.cell? ⟨ga, 5, none⟩ = some (.slice A5 k c5) := (blk_cell BKga.out 5).trans rfl
                  have HI := HI5
                  go_wp2_with (go_at_call 22; clear hga0 hga1 hga2 hga3 hga4 hga5; have hs : runP (xs.take (i + 1)) = (r.1, ys) := (by rw [HST.out]; unfold stepP; rw [if_neg K1.out, if_neg K2.out, if_pos K3.out, HYS.out]); have hT2 := HT.out.grow (m2 := i + 1) (by have := HPL.out; omega); have e1 : (r.1, ys).1 = (runP (xs.take (i + 1))).1 := (by rw [hs]); have e2 : (r.1, ys).2 = (runP (xs.take (i + 1))).2 := (by rw [hs]); (try dsimp only at e1 e2); rw [e1, e2] at hT2; (with_reducible refine (looks_calls _ _ q db (i + 1) _ _ hT2 HPN.out.1 (by have := HPL.out; omega) HPN.out.2 a.f1 HWC.out).mono ?_); rintro e wz ⟨rfl, hq, hk⟩; have HTZ : Aside0 (Two (fun k => w.heap.size ≤ k) wz q db (runP (xs.take (i + 1))).1 (runP (xs.take (i + 1))).1 (runP (xs.take (i + 1))).2 (runP (xs.take (i + 1))).2 (i + 1)) := ⟨hq.mono (fun k h _ => by have := HB.out.size; have := HKN.out; show w.heap.size ≤ k; have := HM.out; have := HKK.out; rcases h with (h | h) | h <;> omega)⟩; have HBZ : Aside0 (Below w.heap.size w wz) := ⟨HB.out.trans (hk.below HB.out.size (fun k h => by have := HB.out.size; have := HKN.out; have := HM.out; have := HKK.out; rcases h with h | h <;> omega))⟩; clear hq hk hs hT2 e1 e2)
                  have HGG := HGG5
                  go_roundg (xs.length - i)
                  case measure => have := HGG.out; have := HIL.out; omega
                  case rel =>
                    have he : wrap64 (x5 + 1) = ((i + 1 : Nat) : Int) := by have := HI.out.1; have := HPL.out; rw [w64 (by omega) (by omega)]; omega
                    exact ⟨wrap64 (x5 + 1), i + 1, rfl, by have := HIL.out; omega, ⟨he, HIL.out⟩, HTZ, HBZ⟩
            · have K3 := Aside0.mk k3
              have k3b : (a.f0 == 3) = false := by rw [beq_eq_false_iff_ne]; exact k3
              clear k3
              go_wp2_with (first | ((with_reducible refine gate_dst (N := 6) rfl ?_); refine box_event ?hg (N := 6) ?hd (cs := #[(.int .i64 0), (.int .i64 0), (.int .i64 0), (.int .i64 0), (.int .i64 0), (.slice none 0 0)]) (t := 43) ?hr ?_; (case hd => rfl); (case hg => rfl); (case hr => first | (go_simp; done) | (go_simp; rfl)); intro ga hgx w6 hbox hb; have HBX := Aside0.mk hb; have GEX : Aside0 (wr.heap.size ≤ ga) := ⟨by rw [hgx]; exact Nat.le_refl _⟩; have BKX := Aside0.mk hbox; clear hbox hb hgx; have hzx0 : w6.cell? ⟨ga, 0, none⟩ = some (.int .i64 0) := (blk_cell BKX.out 0).trans rfl; have hzx1 : w6.cell? ⟨ga, 1, none⟩ = some (.int .i64 0) := (blk_cell BKX.out 1).trans rfl; have hzx2 : w6.cell? ⟨ga, 2, none⟩ = some (.int .i64 0) := (blk_cell BKX.out 2).trans rfl; have hzx3 : w6.cell? ⟨ga, 3, none⟩ = some (.int .i64 0) := (blk_cell BKX.out 3).trans rfl; have hzx4 : w6.cell? ⟨ga, 4, none⟩ = some (.int .i64 0) := (blk_cell BKX.out 4).trans rfl; have hzx5 : w6.cell? ⟨ga, 5, none⟩ = some (.slice none 0 0) := (blk_cell BKX.out 5).trans rfl; have hzf0 := blk_frozen BKX.out 0; have hzf1 := blk_frozen BKX.out 1; have hzf2 := blk_frozen BKX.out 2; have hzf3 := blk_frozen BKX.out 3; have hzf4 := blk_frozen BKX.out 4; have hzf5 := blk_frozen BKX.out 5) | (go_at_call 22; clear hzx0 hzf0 hzx1 hzf1 hzx2 hzf2 hzx3 hzf3 hzx4 hzf4 hzx5 hzf5; have hbw : Below wr.heap.size wr ((((((w6.setCell ⟨ga, 0, none⟩ (.int .i64 a.f0)).setCell ⟨ga, 1, none⟩ (.int .i64 a.f1.f0)).setCell ⟨ga, 2, none⟩ (.int .i64 a.f1.f1)).setCell ⟨ga, 3, none⟩ (.int .i64 a.f1.f2)).setCell ⟨ga, 4, none⟩ (.int .i64 a.f2)).setCell ⟨ga, 5, none⟩ (.slice A5 n c5)) := below_set (below_set (below_set (below_set (below_set (below_set (HBX.out) GEX.out) GEX.out) GEX.out) GEX.out) GEX.out) GEX.out; have n0_ : Aside0 (Below w.heap.size w ((((((w6.setCell ⟨ga, 0, none⟩ (.int .i64 a.f0)).setCell ⟨ga, 1, none⟩ (.int .i64 a.f1.f0)).setCell ⟨ga, 2, none⟩ (.int .i64 a.f1.f1)).setCell ⟨ga, 3, none⟩ (.int .i64 a.f1.f2)).setCell ⟨ga, 4, none⟩ (.int .i64 a.f2)).setCell ⟨ga, 5, none⟩ (.slice A5 n c5))) := ⟨(below_step HB.out hbw)⟩; have n1_ : Aside0 (Two (fun k => w.heap.size ≤ k ∧ k < KB) ((((((w6.setCell ⟨ga, 0, none⟩ (.int .i64 a.f0)).setCell ⟨ga, 1, none⟩ (.int .i64 a.f1.f0)).setCell ⟨ga, 2, none⟩ (.int .i64 a.f1.f1)).setCell ⟨ga, 3, none⟩ (.int .i64 a.f1.f2)).setCell ⟨ga, 4, none⟩ (.int .i64 a.f2)).setCell ⟨ga, 5, none⟩ (.slice A5 n c5)) q db r.1 r.1 r.2 r.2 i) := ⟨(Two.below HT.out hbw)⟩; clear HB HT; have HB := n0_; have HT := n1_; clear n0_ n1_; have BKga : Aside0 (((((((w6.setCell ⟨ga, 0, none⟩ (.int .i64 a.f0)).setCell ⟨ga, 1, none⟩ (.int .i64 a.f1.f0)).setCell ⟨ga, 2, none⟩ (.int .i64 a.f1.f1)).setCell ⟨ga, 3, none⟩ (.int .i64 a.f1.f2)).setCell ⟨ga, 4, none⟩ (.int .i64 a.f2)).setCell ⟨ga, 5, none⟩ (.slice A5 n c5)).heap[ga]? = some (.cells #[(.int .i64 a.f0), (.int .i64 a.f1.f0), (.int .i64 a.f1.f1), (.int .i64 a.f1.f2), (.int .i64 a.f2), (.slice A5 n c5)] 43 (0, 0))) := ⟨by refine blk_put (cs := #[(.int .i64 a.f0), (.int .i64 a.f1.f0), (.int .i64 a.f1.f1), (.int .i64 a.f1.f2), (.int .i64 a.f2), (.slice none 0 0)]) ?_ 5 _ rfl; refine blk_put (cs := #[(.int .i64 a.f0), (.int .i64 a.f1.f0), (.int .i64 a.f1.f1), (.int .i64 a.f1.f2), (.int .i64 0), (.slice none 0 0)]) ?_ 4 _ rfl; refine blk_put (cs := #[(.int .i64 a.f0), (.int .i64 a.f1.f0), (.int .i64 a.f1.f1), (.int .i64 0), (.int .i64 0), (.slice none 0 0)]) ?_ 3 _ rfl; refine blk_put (cs := #[(.int .i64 a.f0), (.int .i64 a.f1.f0), (.int .i64 0), (.int .i64 0), (.int .i64 0), (.slice none 0 0)]) ?_ 2 _ rfl; refine blk_put (cs := #[(.int .i64 a.f0), (.int .i64 0), (.int .i64 0), (.int .i64 0), (.int .i64 0), (.slice none 0 0)]) ?_ 1 _ rfl; refine blk_put (cs := #[(.int .i64 0), (.int .i64 0), (.int .i64 0), (.int .i64 0), (.int .i64 0), (.slice none 0 0)]) ?_ 0 _ rfl; exact BKX.out⟩; have GA : Aside0 (wr.heap.size ≤ ga) := ⟨GEX.out⟩; clear hbw BKX HBX GEX; generalize ((((((w6.setCell ⟨ga, 0, none⟩ (.int .i64 a.f0)).setCell ⟨ga, 1, none⟩ (.int .i64 a.f1.f0)).setCell ⟨ga, 2, none⟩ (.int .i64 a.f1.f1)).setCell ⟨ga, 3, none⟩ (.int .i64 a.f1.f2)).setCell ⟨ga, 4, none⟩ (.int .i64 a.f2)).setCell ⟨ga, 5, none⟩ (.slice A5 n c5)) = w7 at HB HT BKga ⊢; have hs : runP (xs.take (i + 1)) = r := (by rw [HST.out]; unfold stepP; rw [if_neg K1.out, if_neg K2.out, if_neg K3.out]); have hT2 := HT.out.grow (m2 := i + 1) (by omega); have e1 : r.1 = (runP (xs.take (i + 1))).1 := (by rw [hs]); have e2 : r.2 = (runP (xs.take (i + 1))).2 := (by rw [hs]); (try dsimp only at e1 e2); rw [← hs] at hT2; (with_reducible refine (looks_calls _ _ q db (i + 1) _ _ hT2 HPN.out.1 (by have := HPL.out; omega) HPN.out.2 a.f1 HWC.out).mono ?_); rintro e wz ⟨rfl, hq, hk⟩; have HTZ : Aside0 (Two (fun k => w.heap.size ≤ k) wz q db (runP (xs.take (i + 1))).1 (runP (xs.take (i + 1))).1 (runP (xs.take (i + 1))).2 (runP (xs.take (i + 1))).2 (i + 1)) := ⟨hq.mono (fun k h _ => by have := HB.out.size; have := HKN.out; show w.heap.size ≤ k; rcases h with h | h <;> omega)⟩; have HBZ : Aside0 (Below w.heap.size w wz) := ⟨HB.out.trans (hk.below HB.out.size (fun k h => by have := HB.out.size; have := HKN.out; omega))⟩; clear hq hk hs hT2 e1 e2))
              go_roundg (xs.length - i)
              case measure => have := HGG.out; have := HIL.out; omega
              case rel =>
                have he : wrap64 (x5 + 1) = ((i + 1 : Nat) : Int) := by have := HI.out.1; have := HPL.out; rw [w64 (by omega) (by omega)]; omega
                exact ⟨wrap64 (x5 + 1), i + 1, rfl, by have := HIL.out; omega, ⟨he, HIL.out⟩, HTZ, HBZ⟩
      · have c2b : decide (x5 < (xs.length : Int)) = false := decide_eq_false c2
        have c2f := eq_false c2
        clear c2
        go_wp2
        go_ret
        exact ⟨rfl, HB.out⟩
end Go.Proofs.Ytgkbcgmcpbbneaa.Q
