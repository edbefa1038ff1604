/- The walk of queue.First. -/
import Derived.Test.YtgkbcgmcpbbneaaPut
import Derived.Test.YtgkbcgmcpbbneaaHeap
namespace Go.Proofs.Ytgkbcgmcpbbneaa.Q
open Go Go.RowKit Go.Maps Go.Proofs.YtgkbcgmcpbbneaaW.PrintWords Go.Proofs.YtgkbcgmcpbbneaaW.PrintLast Go.Proofs.YtgkbcgmcpbbneaaW.PrintMore
attribute [local go_sem] max2_int min2_int max_two min_two max_three min_three max_four min_four
set_option maxRecDepth 100000
set_option linter.unusedVariables false
set_option linter.unusedSimpArgs false
theorem eqA63 (d : Nat) (w : World) (x0 y0 x1 y1 x2 y2 x3 y3 x4 y4 : Int) :
    (Op.equalIn (d + 3) 63 (.agg #[.int .i64 x0, .int .i64 x1, .int .i64 x2, .int .i64 x3, .int .i64 x4]) (.agg #[.int .i64 y0, .int .i64 y1, .int .i64 y2, .int .i64 y3, .int .i64 y4])).run Try.prog w = .ok (x0 == y0 && (x1 == y1 && (x2 == y2 && (x3 == y3 && x4 == y4)))) w := by
  refine eqA_of Try.underlying63 (by kernel_rfl) ?_
  refine eqf_cons (by rfl) (by go_simp; rfl) (by go_simp; rfl) (by go_simp) ?_
  refine eqf_cons (by rfl) (by go_simp; rfl) (by go_simp; rfl) (by go_simp) ?_
  exact eqf_last (by rfl) (by first | (go_simp; done) | (go_simp; rfl)) (by first | (go_simp; done) | (go_simp; rfl)) (eqA30 d w x2 y2 x3 y3 x4 y4)
attribute [local go_sem high] eqA30 eqA63
theorem QuAt.other {w w' : World} {F : Nat → Prop} {qb mb : Nat} {vs vh : Value} {L : List Wt} {sn : List S46} {hp : List S63} (h : QuAt w F qb mb vs vh L sn hp) {gr t : Nat} {cs : Array Value} (hb : w.heap[gr]? = some (.cells cs t (0, 0))) (h1 : 61 ≠ t) (h2 : 46 ≠ t) (h3 : 63 ≠ t)
    (hm : ∀ k, k < w.heap.size → k ≠ gr → w'.heap[k]? = w.heap[k]?) : QuAt w' F qb mb vs vh L sn hp := by
  have k1 : qb ≠ gr := blk_ne h.blk hb h1
  have k2 : mb ≠ gr := fun e => by
    obtain ⟨es, clock, hm⟩ := h.map.obj
    rw [e, hb] at hm
    cases hm
  have k3 := Kd.R_step (w1 := w') (Kd.R_tight rfl h.seen) (fun k ho hlt => hm k hlt (fun e => Kd.R_ne h.seen hb h2 (by rw [← e]; exact ho)))
  have k4 := Kd.R_step (w1 := w') (Kd.R_tight rfl h.heap) (fun k ho hlt => hm k hlt (fun e => Kd.R_ne h.heap hb h3 (by rw [← e]; exact ho)))
  exact ⟨(hm qb (blk_lt h.blk) k1).trans h.blk, h.map.move (hm mb h.map.lt k2), Kd.R_mono k3 (fun k ho => h.seen.1 k ho.symm), Kd.R_mono k4 (fun k ho => h.heap.1 k ho.symm), h.fq, h.fm⟩
theorem put3_heap (w : World) (g : Nat) (a b c : Value) (k : Nat) (hk : k ≠ g) : (((w.setCell ⟨g, 0, none⟩ a).setCell ⟨g, 1, none⟩ b).setCell ⟨g, 2, none⟩ c).heap[k]? = w.heap[k]? :=
  (Below.heap_setCell _ _ _ k hk).trans ((Below.heap_setCell _ _ _ k hk).trans (Below.heap_setCell _ _ _ k hk))
def firstOf : List S63 → S30 × Bool
  | [] => (z30, false)
  | x :: _ => (x.f2, true)
def FirstPost (w : World) (F : Nat → Prop) (qb mb : Nat) (vs vh : Value) (L : List Wt) (sn : List S46) (hp : List S63) (e : Ending) (w' : World) : Prop :=
  e = .returned (.tuple #[.agg #[.int .i64 (firstOf (goodH L sn (hp.length + 1) hp)).1.f0, .int .i64 (firstOf (goodH L sn (hp.length + 1) hp)).1.f1, .int .i64 (firstOf (goodH L sn (hp.length + 1) hp)).1.f2], .bool (firstOf (goodH L sn (hp.length + 1) hp)).2]) ∧
    ∃ vh', QuAt w' F qb mb vs vh' L sn (goodH L sn (hp.length + 1) hp) ∧ Kp w w' (fun k => k = qb ∨ some k = vh.ownBlock)
theorem firstEnd {w w' : World} {vb : Option Nat} {F : Nat → Prop} {qb mb : Nat} {vs vh vh' : Value} {L : List Wt} {sn : List S46} {hp l : List S63} {c : S30} {b : Bool} (hg : goodH L sn (hp.length + 1) hp = l) (hc : firstOf l = (c, b)) (hQ : QuAt w' F qb mb vs vh' L sn l)
    (hk : Kp w w' (fun k => k = qb ∨ some k = vb)) (hv : vb = vh.ownBlock) : FirstPost w F qb mb vs vh L sn hp (.returned (.tuple #[.agg #[.int .i64 c.f0, .int .i64 c.f1, .int .i64 c.f2], .bool b])) w' := by
  subst hg hv
  unfold FirstPost
  rw [hc]
  exact ⟨rfl, vh', hQ, hk⟩

set_option maxHeartbeats 8000000 in
theorem first_calls (w : World) (F : Nat → Prop) (qb mb : Nat) (vs vh : Value) (L : List Wt) (sn : List S46) (hp : List S63) (hQ : QuAt w F qb mb vs vh L sn hp) (hl : hp.length ≤ 1000000) (hs : sn.length ≤ 1000000) (hw : ∀ y ∈ hp, Wc y.f2) : Calls Try.prog 12 #[.pointer (some ⟨qb, 0, none⟩)] w (FirstPost w F qb mb vs vh L sn hp) := by
  have hu63 := Try.underlying63
  have hu61 := Try.underlying61
  have hu59 := Try.underlying59
  have hu55 := Try.underlying55
  have hu30 := Try.underlying30
  obtain ⟨A, cap, rfl, hle, _⟩ := Kd.R_reads hQ.heap
  obtain ⟨vb, hvb⟩ : ∃ vb, vb = (Value.slice A hp.length cap).ownBlock := ⟨_, rfl⟩
  have HVB := Aside0.mk hvb
  clear hvb
  have HK : Aside0 (Kp w w (fun k => k = qb ∨ some k = vb)) := ⟨Kp.refl _ _⟩
  have HA := Aside0.mk hQ
  have HSN := Aside0.mk hs
  have HWF : Aside0 (hp.length ≤ 1000000 ∧ ∀ y ∈ hp, Wc y.f2) := ⟨⟨hl, hw⟩⟩
  clear hQ hl hs hw hle
  go_enter Try.func12, Try.ntmps12
  go_wp2_with ((with_reducible refine gate_dst (N := 2) rfl ?_); refine box_event ?hg (N := 2) ?hd (cs := #[(.int .i64 0), (.int .i64 0), (.int .i64 0)]) (t := 30) ?hr ?_; (case hd => rfl); (case hg => rfl); (case hr => first | (go_simp; done) | (go_simp; rfl)); intro gr hg w1 hbox hb; have GEgr : Aside0 (w.heap.size ≤ gr) := ⟨by rw [hg]; exact HK.out.size⟩; have n0_ : Aside0 (Kp w w1 (fun k => k = qb ∨ some k = vb)) := ⟨(Kp.then_ HK.out (Kp.of_below hb (fun _ => False)) (fun _ h => h.elim))⟩; have n1_ : Aside0 (QuAt w1 F qb mb vs (.slice A hp.length cap) L sn hp) := ⟨(QuAt.below HA.out hb)⟩; clear HK HA; have HK := n0_; have HA := n1_; clear n0_ n1_; have BKgr : Aside0 (w1.heap[gr]? = some (.cells #[(.int .i64 0), (.int .i64 0), (.int .i64 0)] 30 (0, 0))) := ⟨hbox⟩; clear hb hbox hg)
  have HU : Aside0 (goodH L sn (hp.length + 1) hp = goodH L sn (hp.length + 1) hp) := ⟨rfl⟩
  go_loopg [4] (hp.length + 1) (fun gg v4 wr => ∃ (hq : List S63), hq.length + 1 ≤ gg ∧ Aside0 (hq.length ≤ 1000000 ∧ ∀ y ∈ hq, Wc y.f2) ∧ Aside0 (QuAt wr F qb mb vs (.slice A hq.length cap) L sn hq) ∧ Aside0 (wr.heap[gr]? = some (.cells #[(.int .i64 0), (.int .i64 0), (.int .i64 0)] 30 (0, 0))) ∧ Aside0 (Kp w wr (fun k => k = qb ∨ some k = vb)) ∧ Aside0 (goodH L sn (hq.length + 1) hq = goodH L sn (hp.length + 1) hp))
  case atStart => exact ⟨hp, Nat.le_refl _, HWF, HA, BKgr, HK, HU⟩
  case round =>
    have GR := GEgr
    clear HA BKgr HK HU HWF GEgr
    obtain ⟨hq, hgg, HWF, HA, BKgr, HK, HU⟩ := hrel
    have HGG := Aside0.mk hgg
    clear hgg
    cases hq with
    | nil =>
      have hcq : wr.cell? ⟨qb, 2, none⟩ = some (.slice A 0 cap) := (blk_cell HA.out.blk 2).trans rfl
      have hr0 : wr.cell? ⟨gr, 0, none⟩ = some (.int .i64 0) := (blk_cell BKgr.out 0).trans rfl
      have hrf0 := blk_frozen BKgr.out 0
      have hr1 : wr.cell? ⟨gr, 1, none⟩ = some (.int .i64 0) := (blk_cell BKgr.out 1).trans rfl
      have hrf1 := blk_frozen BKgr.out 1
      have hr2 : wr.cell? ⟨gr, 2, none⟩ = some (.int .i64 0) := (blk_cell BKgr.out 2).trans rfl
      have hrf2 := blk_frozen BKgr.out 2
      go_wp2
      clear hcq hr0 hr1 hr2 hrf0 hrf1 hrf2
      refine bodyPost_ret (results_ct rfl _ _ gr 30 #[(.int .i64 0), (.int .i64 0), (.int .i64 0)] (0, 0) _ rfl (by refine blk_put (cs := #[(.int .i64 0), (.int .i64 0), (.int .i64 0)]) ?_ 2 _ rfl; refine blk_put (cs := #[(.int .i64 0), (.int .i64 0), (.int .i64 0)]) ?_ 1 _ rfl; refine blk_put (cs := #[(.int .i64 0), (.int .i64 0), (.int .i64 0)]) ?_ 0 _ rfl; exact BKgr.out) Try.underlying30 rfl (by kernel_rfl)) rfl ?_
      exact firstEnd (c := z30) (b := false) HU.out.symm rfl (QuAt.other HA.out BKgr.out (by decide) (by decide) (by decide) (fun k _ hk => put3_heap _ _ _ _ _ k hk)) (Kp.setCell (Kp.setCell (Kp.setCell HK.out (.inr GR.out) _) (.inr GR.out) _) (.inr GR.out) _) HVB.out
    | cons x t =>
      obtain ⟨n, hn⟩ : ∃ n, (x :: t).length = n := ⟨_, rfl⟩
      have HN := Aside0.mk hn
      rw [hn] at HA
      clear hn
      have HNB : Aside0 (0 < n ∧ n ≤ 1000000) := ⟨by have := HN.out; have := HWF.out.1; simp only [List.length_cons] at *; omega⟩
      obtain ⟨g, cap2, hv, _, _, _⟩ := Kd.R_form HA.out.heap (by simp)
      injection hv with hA _ hc2
      subst hA
      subst hc2
      have HX0 : Aside0 ((∀ j v, (ec x)[j]? = some v → wr.cell? ⟨g, 0 * 5 + j, none⟩ = some v) ∧ ∀ j, wr.frozen? ⟨g, 0 * 5 + j, none⟩ = false) := ⟨elem63 HA.out.heap 0 HNB.out.1⟩
      have hcq : wr.cell? ⟨qb, 2, none⟩ = some (.slice (some ⟨g, 0, none⟩) n cap) := (blk_cell HA.out.blk 2).trans rfl
      have hx0 : wr.cell? ⟨g, 0, none⟩ = some (.int .i64 x.f0) := by have := HX0.out.1 0 _ rfl; rwa [Nat.zero_mul, Nat.zero_add] at this
      have hx1 : wr.cell? ⟨g, 1, none⟩ = some (.int .i64 x.f1) := by have := HX0.out.1 1 _ rfl; rwa [Nat.zero_mul, Nat.zero_add] at this
      have hx2 : wr.cell? ⟨g, 2, none⟩ = some (.int .i64 x.f2.f0) := by have := HX0.out.1 2 _ rfl; rwa [Nat.zero_mul, Nat.zero_add] at this
      have hx3 : wr.cell? ⟨g, 3, none⟩ = some (.int .i64 x.f2.f1) := by have := HX0.out.1 3 _ rfl; rwa [Nat.zero_mul, Nat.zero_add] at this
      have hx4 : wr.cell? ⟨g, 4, none⟩ = some (.int .i64 x.f2.f2) := by have := HX0.out.1 4 _ rfl; rwa [Nat.zero_mul, Nat.zero_add] at this
      have hn0 : (0 : Int) < (n : Int) := by have := HNB.out.1; omega
      have hnic : ((0 : Int) < (n : Int)) = True := eq_true hn0
      have hncd : decide ((0 : Int) < (n : Int)) = true := decide_eq_true hn0
      have HW0 : Aside0 (Wc x.f2) := ⟨HWF.out.2 x (List.mem_cons_self ..)⟩
      go_wp2_with ((with_reducible refine gate_dst (N := 4) rfl ?_); refine box_event ?hg (N := 4) ?hd (cs := #[(.int .i64 0), (.int .i64 0), (.int .i64 0), (.int .i64 0), (.int .i64 0)]) (t := 63) ?hr ?_; (case hd => rfl); (case hg => rfl); (case hr => first | (go_simp; done) | (go_simp; rfl)); intro ge hge w1 hbox hb; have HBX := Aside0.mk hb; have GEX : Aside0 (wr.heap.size ≤ ge) := ⟨by rw [hge]; exact Nat.le_refl _⟩; have BKX := Aside0.mk hbox; have hfx := fun j => blk_frozen hbox j; have hcx0 := (blk_cell hbox 0); clear hbox hb hge hcx0; have hzx0 : w1.cell? ⟨ge, 0, none⟩ = some (.int .i64 0) := (blk_cell BKX.out 0).trans rfl; have hzx1 : w1.cell? ⟨ge, 1, none⟩ = some (.int .i64 0) := (blk_cell BKX.out 1).trans rfl; have hzx2 : w1.cell? ⟨ge, 2, none⟩ = some (.int .i64 0) := (blk_cell BKX.out 2).trans rfl; have hzx3 : w1.cell? ⟨ge, 3, none⟩ = some (.int .i64 0) := (blk_cell BKX.out 3).trans rfl; have hzx4 : w1.cell? ⟨ge, 4, none⟩ = some (.int .i64 0) := (blk_cell BKX.out 4).trans rfl; have hzf0 := blk_frozen BKX.out 0; have hzf1 := blk_frozen BKX.out 1; have hzf2 := blk_frozen BKX.out 2; have hzf3 := blk_frozen BKX.out 3; have hzf4 := blk_frozen BKX.out 4)
      clear hcq hnic hncd hn0 hfx HX0 hx0 hzx0 hzf0 hx1 hzx1 hzf1 hx2 hzx2 hzf2 hx3 hzx3 hzf3 hx4 hzx4 hzf4
      have hbw : Below wr.heap.size wr (((((w1.setCell ⟨ge, 0, none⟩ (.int .i64 x.f0)).setCell ⟨ge, 1, none⟩ (.int .i64 x.f1)).setCell ⟨ge, 2, none⟩ (.int .i64 x.f2.f0)).setCell ⟨ge, 3, none⟩ (.int .i64 x.f2.f1)).setCell ⟨ge, 4, none⟩ (.int .i64 x.f2.f2)) := below_set (below_set (below_set (below_set (below_set (HBX.out) GEX.out) GEX.out) GEX.out) GEX.out) GEX.out
      have n0_ : Aside0 (Kp w (((((w1.setCell ⟨ge, 0, none⟩ (.int .i64 x.f0)).setCell ⟨ge, 1, none⟩ (.int .i64 x.f1)).setCell ⟨ge, 2, none⟩ (.int .i64 x.f2.f0)).setCell ⟨ge, 3, none⟩ (.int .i64 x.f2.f1)).setCell ⟨ge, 4, none⟩ (.int .i64 x.f2.f2)) (fun k => k = qb ∨ some k = vb)) := ⟨(Kp.then_ HK.out (Kp.of_below hbw (fun _ => False)) (fun _ h => h.elim))⟩
      have n1_ : Aside0 (QuAt (((((w1.setCell ⟨ge, 0, none⟩ (.int .i64 x.f0)).setCell ⟨ge, 1, none⟩ (.int .i64 x.f1)).setCell ⟨ge, 2, none⟩ (.int .i64 x.f2.f0)).setCell ⟨ge, 3, none⟩ (.int .i64 x.f2.f1)).setCell ⟨ge, 4, none⟩ (.int .i64 x.f2.f2)) F qb mb vs (.slice (some ⟨g, 0, none⟩) n cap) L sn (x :: t)) := ⟨(QuAt.below HA.out hbw)⟩
      have n2_ : Aside0 ((((((w1.setCell ⟨ge, 0, none⟩ (.int .i64 x.f0)).setCell ⟨ge, 1, none⟩ (.int .i64 x.f1)).setCell ⟨ge, 2, none⟩ (.int .i64 x.f2.f0)).setCell ⟨ge, 3, none⟩ (.int .i64 x.f2.f1)).setCell ⟨ge, 4, none⟩ (.int .i64 x.f2.f2)).heap[gr]? = some (.cells #[(.int .i64 0), (.int .i64 0), (.int .i64 0)] 30 (0, 0))) := ⟨(blk_below BKgr.out hbw)⟩
      clear HK HA BKgr
      have HK := n0_
      have HA := n1_
      have BKgr := n2_
      clear n0_ n1_ n2_
      have BKge : Aside0 ((((((w1.setCell ⟨ge, 0, none⟩ (.int .i64 x.f0)).setCell ⟨ge, 1, none⟩ (.int .i64 x.f1)).setCell ⟨ge, 2, none⟩ (.int .i64 x.f2.f0)).setCell ⟨ge, 3, none⟩ (.int .i64 x.f2.f1)).setCell ⟨ge, 4, none⟩ (.int .i64 x.f2.f2)).heap[ge]? = some (.cells #[(.int .i64 x.f0), (.int .i64 x.f1), (.int .i64 x.f2.f0), (.int .i64 x.f2.f1), (.int .i64 x.f2.f2)] 63 (0, 0))) := ⟨by refine blk_put (cs := #[(.int .i64 x.f0), (.int .i64 x.f1), (.int .i64 x.f2.f0), (.int .i64 x.f2.f1), (.int .i64 0)]) ?_ 4 _ rfl; refine blk_put (cs := #[(.int .i64 x.f0), (.int .i64 x.f1), (.int .i64 x.f2.f0), (.int .i64 0), (.int .i64 0)]) ?_ 3 _ rfl; refine blk_put (cs := #[(.int .i64 x.f0), (.int .i64 x.f1), (.int .i64 0), (.int .i64 0), (.int .i64 0)]) ?_ 2 _ rfl; refine blk_put (cs := #[(.int .i64 x.f0), (.int .i64 0), (.int .i64 0), (.int .i64 0), (.int .i64 0)]) ?_ 1 _ rfl; refine blk_put (cs := #[(.int .i64 0), (.int .i64 0), (.int .i64 0), (.int .i64 0), (.int .i64 0)]) ?_ 0 _ rfl; exact BKX.out⟩
      clear hbw BKX HBX GEX
      generalize (((((w1.setCell ⟨ge, 0, none⟩ (.int .i64 x.f0)).setCell ⟨ge, 1, none⟩ (.int .i64 x.f1)).setCell ⟨ge, 2, none⟩ (.int .i64 x.f2.f0)).setCell ⟨ge, 3, none⟩ (.int .i64 x.f2.f1)).setCell ⟨ge, 4, none⟩ (.int .i64 x.f2.f2)) = w2 at HK HA BKgr BKge ⊢
      cases hw : (look L x.f2).isSome with
      | false =>
        have HW := Aside0.mk hw
        clear hw
        have HV : Aside0 (validE L sn x = false) := ⟨by unfold validE; rw [HW.out]; rfl⟩
        refine start_ (n := 12) (S := fun w' => w'.cell? ⟨qb, 0, none⟩ = some (.map (some mb)) ∧ w'.cell? ⟨ge, 2, none⟩ = some (.int .i64 x.f2.f0) ∧ w'.cell? ⟨ge, 3, none⟩ = some (.int .i64 x.f2.f1) ∧ w'.cell? ⟨ge, 4, none⟩ = some (.int .i64 x.f2.f2) ∧ (Instr.lookup 56 (.map (some mb)) (.agg #[.int .i64 x.f2.f0, .int .i64 x.f2.f1, .int .i64 x.f2.f2]) true).run Try.prog w' = .ok (.tuple #[.int .i64 ((look L x.f2).getD 0), .bool false]) w') (ds := []) #[false, false, false, false, false, false, false, false, false, false, false, false] (by kernel_rfl) rfl rfl ⟨(blk_cell HA.out.blk 0).trans rfl, (blk_cell BKge.out 2).trans rfl, (blk_cell BKge.out 3).trans rfl, (blk_cell BKge.out 4).trans rfl, (by have := (HA.out.drew).map.look_ok x.f2 HW0.out; rwa [HW.out] at this)⟩ (fun hHeld => ?_)
        refine pure_ (i := 0) (N := some 22) (v := ?_) (a' := ?_) #[true, false, false, false, false, false, false, false, false, false, false, false] rfl rfl (by kernel_rfl) (fun _ _ _ h => h) (Or.inl ⟨by rfl, ?_⟩) ?_ ?_
        rotate_left
        · intro w'
          go_simp
          with_reducible rfl
        rotate_left
        · simp only [Act.put, List.setIfInBounds_toArray, List.set_cons_zero, List.set_cons_succ, i64_w, i32_w]
          rfl
        refine pure_ (i := 1) (N := some 23) (v := ?_) (a' := ?_) #[true, true, false, false, false, false, false, false, false, false, false, false] rfl rfl (by kernel_rfl) (fun _ _ _ h => h) (Or.inl ⟨by rfl, ?_⟩) ?_ ?_
        rotate_left
        · intro w'
          go_simp
          with_reducible rfl
        rotate_left
        · simp only [Act.put, List.setIfInBounds_toArray, List.set_cons_zero, List.set_cons_succ, i64_w, i32_w]
          rfl
        refine pure_ (i := 2) (N := some 24) (v := ?_) (a' := ?_) #[true, true, true, false, false, false, false, false, false, false, false, false] rfl rfl (by kernel_rfl) (fun _ _ _ h => h) (Or.inl ⟨by rfl, ?_⟩) ?_ ?_
        rotate_left
        · intro w'
          go_simp
          with_reducible rfl
        rotate_left
        · simp only [Act.put, List.setIfInBounds_toArray, List.set_cons_zero, List.set_cons_succ, i64_w, i32_w]
          rfl
        refine pure_ (i := 4) (N := some 26) (v := ?_) (a' := ?_) #[true, true, true, false, true, false, false, false, false, false, false, false] rfl rfl (by kernel_rfl) (fun _ _ _ h => h) (Or.inl ⟨by rfl, ?_⟩) ?_ ?_
        rotate_left
        · intro w'
          go_simp
          with_reducible rfl
        rotate_left
        · simp only [Act.put, List.setIfInBounds_toArray, List.set_cons_zero, List.set_cons_succ, i64_w, i32_w]
          rfl
        refine take_ (i := 3) (N := some 25) (v := ?_) (a' := ?_) #[true, true, true, true, true, false, false, false, false, false, false, false] rfl rfl (by kernel_rfl) (fun _ _ _ h => h) (Or.inl ⟨by rfl, ?_⟩) hHeld ?_ ?_
        rotate_left
        · rintro w' ⟨s0, s1, s2, s3, s4⟩
          go_simp
          with_reducible rfl
        rotate_left
        · simp only [Act.put, List.setIfInBounds_toArray, List.set_cons_zero, List.set_cons_succ, i64_w, i32_w]
          rfl
        refine take_ (i := 5) (N := some 27) (v := ?_) (a' := ?_) #[true, true, true, true, true, true, false, false, false, false, false, false] rfl rfl (by kernel_rfl) (fun _ _ _ h => h) (Or.inl ⟨by rfl, ?_⟩) hHeld ?_ ?_
        rotate_left
        · rintro w' ⟨s0, s1, s2, s3, s4⟩
          go_simp
          with_reducible rfl
        rotate_left
        · simp only [Act.put, List.setIfInBounds_toArray, List.set_cons_zero, List.set_cons_succ, i64_w, i32_w]
          rfl
        refine take_ (i := 6) (N := some 28) (v := ?_) (a' := ?_) #[true, true, true, true, true, true, true, false, false, false, false, false] rfl rfl (by kernel_rfl) (fun _ _ _ h => h) (Or.inl ⟨by rfl, ?_⟩) hHeld ?_ ?_
        rotate_left
        · rintro w' ⟨s0, s1, s2, s3, s4⟩
          go_simp
          with_reducible rfl
        rotate_left
        · simp only [Act.put, List.setIfInBounds_toArray, List.set_cons_zero, List.set_cons_succ, i64_w, i32_w]
          rfl
        refine pure_ (i := 7) (N := some 21) (v := ?_) (a' := ?_) #[true, true, true, true, true, true, true, true, false, false, false, false] rfl rfl (by kernel_rfl) (fun _ _ _ h => h) (Or.inl ⟨by rfl, ?_⟩) ?_ ?_
        rotate_left
        · intro w'
          go_simp
          with_reducible rfl
        rotate_left
        · simp only [Act.put, List.setIfInBounds_toArray, List.set_cons_zero, List.set_cons_succ, i64_w, i32_w]
          rfl
        refine pure_ (i := 8) (N := some 29) (v := ?_) (a' := ?_) #[true, true, true, true, true, true, true, true, true, false, false, false] rfl rfl (by kernel_rfl) (fun _ _ _ h => h) (Or.inl ⟨by rfl, ?_⟩) ?_ ?_
        rotate_left
        · intro w'
          go_simp
          with_reducible rfl
        rotate_left
        · simp only [Act.put, List.setIfInBounds_toArray, List.set_cons_zero, List.set_cons_succ, i64_w, i32_w]
          rfl
        refine pure_ (i := 9) (N := some 30) (v := ?_) (a' := ?_) #[true, true, true, true, true, true, true, true, true, true, false, false] rfl rfl (by kernel_rfl) (fun _ _ _ h => h) (Or.inl ⟨by rfl, ?_⟩) ?_ ?_
        rotate_left
        · intro w'
          go_simp
          with_reducible rfl
        rotate_left
        · simp only [Act.put, List.setIfInBounds_toArray, List.set_cons_zero, List.set_cons_succ, i64_w, i32_w]
          rfl
        refine pure_ (i := 10) (N := some 5) (v := ?_) (a' := ?_) #[true, true, true, true, true, true, true, true, true, true, true, false] rfl rfl (by kernel_rfl) (fun _ _ _ h => h) (Or.inl ⟨by rfl, ?_⟩) ?_ ?_
        rotate_left
        · intro w'
          go_simp
          with_reducible rfl
        rotate_left
        · simp only [Act.put, List.setIfInBounds_toArray, List.set_cons_zero, List.set_cons_succ, i64_w, i32_w]
          rfl
        refine pure_ (i := 11) (N := some 6) (v := ?_) (a' := ?_) #[true, true, true, true, true, true, true, true, true, true, true, true] rfl rfl (by kernel_rfl) (fun _ _ _ h => h) (Or.inl ⟨by rfl, ?_⟩) ?_ ?_
        rotate_left
        · intro w'
          go_simp
          with_reducible rfl
        rotate_left
        · simp only [Act.put, List.setIfInBounds_toArray, List.set_cons_zero, List.set_cons_succ, i64_w, i32_w]
          rfl
        refine done_ (by kernel_rfl) ?_
        have n0_ : Aside0 (Kp w w2.drew (fun k => k = qb ∨ some k = vb)) := ⟨(Kp.then_ HK.out (Kp.of_below (below_drew1 (Below.refl _ w2)) (fun _ => False)) (fun _ h => h.elim))⟩
        have n1_ : Aside0 (QuAt w2.drew F qb mb vs (.slice (some ⟨g, 0, none⟩) n cap) L sn (x :: t)) := ⟨(QuAt.below HA.out (below_drew1 (Below.refl _ w2)))⟩
        have n2_ : Aside0 (w2.drew.heap[gr]? = some (.cells #[(.int .i64 0), (.int .i64 0), (.int .i64 0)] 30 (0, 0))) := ⟨(blk_below BKgr.out (below_drew1 (Below.refl _ w2)))⟩
        have n3_ : Aside0 (w2.drew.heap[ge]? = some (.cells #[(.int .i64 x.f0), (.int .i64 x.f1), (.int .i64 x.f2.f0), (.int .i64 x.f2.f1), (.int .i64 x.f2.f2)] 63 (0, 0))) := ⟨(blk_below BKge.out (below_drew1 (Below.refl _ w2)))⟩
        clear HK HA BKgr BKge
        have HK := n0_
        have HA := n1_
        have BKgr := n2_
        have BKge := n3_
        clear n0_ n1_ n2_ n3_
        generalize w2.drew = w3 at HK HA BKgr BKge ⊢
        go_wp2
        refine start_ (n := 9) (S := fun w' => True) (ds := []) #[false, false, false, false, false, false, false, false, false] (by kernel_rfl) rfl rfl (trivial) (fun hHeld => ?_)
        refine pure_ (i := 0) (N := some 31) (v := ?_) (a' := ?_) #[true, false, false, false, false, false, false, false, false] rfl rfl (by kernel_rfl) (fun _ _ _ h => h) (Or.inl ⟨by rfl, ?_⟩) ?_ ?_
        rotate_left
        · intro w'
          go_simp
          with_reducible rfl
        rotate_left
        · simp only [Act.put, List.setIfInBounds_toArray, List.set_cons_zero, List.set_cons_succ, i64_w, i32_w]
          rfl
        refine pure_ (i := 1) (N := some 32) (v := ?_) (a' := ?_) #[true, true, false, false, false, false, false, false, false] rfl rfl (by kernel_rfl) (fun _ _ _ h => h) (Or.inl ⟨by rfl, ?_⟩) ?_ ?_
        rotate_left
        · intro w'
          go_simp
          with_reducible rfl
        rotate_left
        · simp only [Act.put, List.setIfInBounds_toArray, List.set_cons_zero, List.set_cons_succ, i64_w, i32_w]
          rfl
        refine pure_ (i := 2) (N := some 33) (v := undef) (a' := ?_) #[true, true, true, false, false, false, false, false, false] rfl rfl (by kernel_rfl) (fun _ _ _ h => h) (Or.inr ⟨by rfl, rfl⟩) ?_ ?_
        rotate_left
        · simp only [Act.put, List.setIfInBounds_toArray, List.set_cons_zero, List.set_cons_succ, i64_w, i32_w]
          rfl
        refine pure_ (i := 3) (N := some 34) (v := undef) (a' := ?_) #[true, true, true, true, false, false, false, false, false] rfl rfl (by kernel_rfl) (fun _ _ _ h => h) (Or.inr ⟨by rfl, rfl⟩) ?_ ?_
        rotate_left
        · simp only [Act.put, List.setIfInBounds_toArray, List.set_cons_zero, List.set_cons_succ, i64_w, i32_w]
          rfl
        refine pure_ (i := 4) (N := some 35) (v := undef) (a' := ?_) #[true, true, true, true, true, false, false, false, false] rfl rfl (by kernel_rfl) (fun _ _ _ h => h) (Or.inr ⟨by rfl, rfl⟩) ?_ ?_
        rotate_left
        · simp only [Act.put, List.setIfInBounds_toArray, List.set_cons_zero, List.set_cons_succ, i64_w, i32_w]
          rfl
        refine pure_ (i := 5) (N := some 36) (v := undef) (a' := ?_) #[true, true, true, true, true, true, false, false, false] rfl rfl (by kernel_rfl) (fun _ _ _ h => h) (Or.inr ⟨by rfl, rfl⟩) ?_ ?_
        rotate_left
        · simp only [Act.put, List.setIfInBounds_toArray, List.set_cons_zero, List.set_cons_succ, i64_w, i32_w]
          rfl
        refine pure_ (i := 6) (N := some 37) (v := undef) (a' := ?_) #[true, true, true, true, true, true, true, false, false] rfl rfl (by kernel_rfl) (fun _ _ _ h => h) (Or.inr ⟨by rfl, rfl⟩) ?_ ?_
        rotate_left
        · simp only [Act.put, List.setIfInBounds_toArray, List.set_cons_zero, List.set_cons_succ, i64_w, i32_w]
          rfl
        refine pure_ (i := 7) (N := some 38) (v := undef) (a' := ?_) #[true, true, true, true, true, true, true, true, false] rfl rfl (by kernel_rfl) (fun _ _ _ h => h) (Or.inr ⟨by rfl, rfl⟩) ?_ ?_
        rotate_left
        · simp only [Act.put, List.setIfInBounds_toArray, List.set_cons_zero, List.set_cons_succ, i64_w, i32_w]
          rfl
        refine pure_ (i := 8) (N := some 39) (v := ?_) (a' := ?_) #[true, true, true, true, true, true, true, true, true] rfl rfl (by kernel_rfl) (fun _ _ _ h => h) (Or.inl ⟨by rfl, ?_⟩) ?_ ?_
        rotate_left
        · intro w'
          go_simp
          with_reducible rfl
        rotate_left
        · simp only [Act.put, List.setIfInBounds_toArray, List.set_cons_zero, List.set_cons_succ, i64_w, i32_w]
          rfl
        refine done_ (by kernel_rfl) ?_
        have n0_ : Aside0 (Kp w w3.drew (fun k => k = qb ∨ some k = vb)) := ⟨(Kp.then_ HK.out (Kp.of_below (below_drew1 (Below.refl _ w3)) (fun _ => False)) (fun _ h => h.elim))⟩
        have n1_ : Aside0 (QuAt w3.drew F qb mb vs (.slice (some ⟨g, 0, none⟩) n cap) L sn (x :: t)) := ⟨(QuAt.below HA.out (below_drew1 (Below.refl _ w3)))⟩
        have n2_ : Aside0 (w3.drew.heap[gr]? = some (.cells #[(.int .i64 0), (.int .i64 0), (.int .i64 0)] 30 (0, 0))) := ⟨(blk_below BKgr.out (below_drew1 (Below.refl _ w3)))⟩
        have n3_ : Aside0 (w3.drew.heap[ge]? = some (.cells #[(.int .i64 x.f0), (.int .i64 x.f1), (.int .i64 x.f2.f0), (.int .i64 x.f2.f1), (.int .i64 x.f2.f2)] 63 (0, 0))) := ⟨(blk_below BKge.out (below_drew1 (Below.refl _ w3)))⟩
        clear HK HA BKgr BKge
        have HK := n0_
        have HA := n1_
        have BKgr := n2_
        have BKge := n3_
        clear n0_ n1_ n2_ n3_
        generalize w3.drew = w4 at HK HA BKgr BKge ⊢
        have hc2 : w4.cell? ⟨qb, 2, none⟩ = some (.slice (some ⟨g, 0, none⟩) n cap) := (blk_cell HA.out.blk 2).trans rfl
        go_wp2_with (go_at_call 29; (with_reducible refine (pop_calls w4 F qb mb vs g n cap (n - 1) (x :: t) (QuAt.qb HA.out) HA.out.heap (by have := HNB.out.1; omega) HNB.out.2).mono ?_); rintro e w9 ⟨rfl, hq9, hr9, hk9⟩; have HQ9 := Aside0.mk hq9; have HR9 := Aside0.mk hr9; have HK9 := Aside0.mk hk9; clear hq9 hr9 hk9)
        go_roundg (t.length + 1)
        case measure => have := HGG.out; simp only [List.length_cons] at this; omega
        case rel =>
          have hpl : (popH (x :: t)).length = t.length := (popH_perm x t).length_eq
          have hnt : n - 1 = (popH (x :: t)).length := by rw [hpl]; have := HN.out; simp only [List.length_cons] at this; omega
          have hA9 : QuAt w9 F qb mb vs (.slice (some ⟨g, 0, none⟩) (n - 1) cap) L sn (popH (x :: t)) := QuAt.afterHeap HA.out HQ9.out HR9.out (HK9.out.mono (fun k hk => hk.imp id (fun e => by rw [e]; rfl))) (fun k hk => hk)
          rw [hnt] at hA9
          have hgr : w9.heap[gr]? = some (.cells #[(.int .i64 0), (.int .i64 0), (.int .i64 0)] 30 (0, 0)) := HK9.out.blk BKgr.out (fun e => by
        rcases e with e | e
        · exact blk_ne BKgr.out HA.out.blk (by decide) e
        · exact Kd.R_ne HA.out.heap BKgr.out (by decide) (by rw [e]; rfl))
          have hgood : goodH L sn ((popH (x :: t)).length + 1) (popH (x :: t)) = goodH L sn (hp.length + 1) hp := by
            rw [← HU.out]
            show _ = goodH L sn (t.length + 1 + 1) (x :: t)
            conv => rhs; unfold goodH
            rw [if_neg (by simp only [Bool.not_eq_true]; exact HV.out)]
            exact goodH_fuel L sn _ _ _ (by omega) (by rw [hpl]; omega)
          exact ⟨popH (x :: t), by omega, ⟨by rw [hpl]; have := HNB.out.2; have := HN.out; simp only [List.length_cons] at this; omega, fun y hy => HWF.out.2 y (popH_mem (by simp) hy)⟩, ⟨hA9⟩, ⟨hgr⟩, ⟨HK.out.then_ HK9.out (fun k hk => .inl (hk.imp id (fun e => by rw [e, HVB.out]; rfl)))⟩, ⟨hgood⟩⟩
      | true =>
        have HW := Aside0.mk hw
        clear hw
        refine start_ (n := 12) (S := fun w' => w'.cell? ⟨qb, 0, none⟩ = some (.map (some mb)) ∧ w'.cell? ⟨ge, 2, none⟩ = some (.int .i64 x.f2.f0) ∧ w'.cell? ⟨ge, 3, none⟩ = some (.int .i64 x.f2.f1) ∧ w'.cell? ⟨ge, 4, none⟩ = some (.int .i64 x.f2.f2) ∧ (Instr.lookup 56 (.map (some mb)) (.agg #[.int .i64 x.f2.f0, .int .i64 x.f2.f1, .int .i64 x.f2.f2]) true).run Try.prog w' = .ok (.tuple #[.int .i64 ((look L x.f2).getD 0), .bool true]) w') (ds := []) #[false, false, false, false, false, false, false, false, false, false, false, false] (by kernel_rfl) rfl rfl ⟨(blk_cell HA.out.blk 0).trans rfl, (blk_cell BKge.out 2).trans rfl, (blk_cell BKge.out 3).trans rfl, (blk_cell BKge.out 4).trans rfl, (by have := (HA.out.drew).map.look_ok x.f2 HW0.out; rwa [HW.out] at this)⟩ (fun hHeld => ?_)
        refine pure_ (i := 0) (N := some 22) (v := ?_) (a' := ?_) #[true, false, false, false, false, false, false, false, false, false, false, false] rfl rfl (by kernel_rfl) (fun _ _ _ h => h) (Or.inl ⟨by rfl, ?_⟩) ?_ ?_
        rotate_left
        · intro w'
          go_simp
          with_reducible rfl
        rotate_left
        · simp only [Act.put, List.setIfInBounds_toArray, List.set_cons_zero, List.set_cons_succ, i64_w, i32_w]
          rfl
        refine pure_ (i := 1) (N := some 23) (v := ?_) (a' := ?_) #[true, true, false, false, false, false, false, false, false, false, false, false] rfl rfl (by kernel_rfl) (fun _ _ _ h => h) (Or.inl ⟨by rfl, ?_⟩) ?_ ?_
        rotate_left
        · intro w'
          go_simp
          with_reducible rfl
        rotate_left
        · simp only [Act.put, List.setIfInBounds_toArray, List.set_cons_zero, List.set_cons_succ, i64_w, i32_w]
          rfl
        refine pure_ (i := 2) (N := some 24) (v := ?_) (a' := ?_) #[true, true, true, false, false, false, false, false, false, false, false, false] rfl rfl (by kernel_rfl) (fun _ _ _ h => h) (Or.inl ⟨by rfl, ?_⟩) ?_ ?_
        rotate_left
        · intro w'
          go_simp
          with_reducible rfl
        rotate_left
        · simp only [Act.put, List.setIfInBounds_toArray, List.set_cons_zero, List.set_cons_succ, i64_w, i32_w]
          rfl
        refine pure_ (i := 4) (N := some 26) (v := ?_) (a' := ?_) #[true, true, true, false, true, false, false, false, false, false, false, false] rfl rfl (by kernel_rfl) (fun _ _ _ h => h) (Or.inl ⟨by rfl, ?_⟩) ?_ ?_
        rotate_left
        · intro w'
          go_simp
          with_reducible rfl
        rotate_left
        · simp only [Act.put, List.setIfInBounds_toArray, List.set_cons_zero, List.set_cons_succ, i64_w, i32_w]
          rfl
        refine take_ (i := 3) (N := some 25) (v := ?_) (a' := ?_) #[true, true, true, true, true, false, false, false, false, false, false, false] rfl rfl (by kernel_rfl) (fun _ _ _ h => h) (Or.inl ⟨by rfl, ?_⟩) hHeld ?_ ?_
        rotate_left
        · rintro w' ⟨s0, s1, s2, s3, s4⟩
          go_simp
          with_reducible rfl
        rotate_left
        · simp only [Act.put, List.setIfInBounds_toArray, List.set_cons_zero, List.set_cons_succ, i64_w, i32_w]
          rfl
        refine take_ (i := 5) (N := some 27) (v := ?_) (a' := ?_) #[true, true, true, true, true, true, false, false, false, false, false, false] rfl rfl (by kernel_rfl) (fun _ _ _ h => h) (Or.inl ⟨by rfl, ?_⟩) hHeld ?_ ?_
        rotate_left
        · rintro w' ⟨s0, s1, s2, s3, s4⟩
          go_simp
          with_reducible rfl
        rotate_left
        · simp only [Act.put, List.setIfInBounds_toArray, List.set_cons_zero, List.set_cons_succ, i64_w, i32_w]
          rfl
        refine take_ (i := 6) (N := some 28) (v := ?_) (a' := ?_) #[true, true, true, true, true, true, true, false, false, false, false, false] rfl rfl (by kernel_rfl) (fun _ _ _ h => h) (Or.inl ⟨by rfl, ?_⟩) hHeld ?_ ?_
        rotate_left
        · rintro w' ⟨s0, s1, s2, s3, s4⟩
          go_simp
          with_reducible rfl
        rotate_left
        · simp only [Act.put, List.setIfInBounds_toArray, List.set_cons_zero, List.set_cons_succ, i64_w, i32_w]
          rfl
        refine pure_ (i := 7) (N := some 21) (v := ?_) (a' := ?_) #[true, true, true, true, true, true, true, true, false, false, false, false] rfl rfl (by kernel_rfl) (fun _ _ _ h => h) (Or.inl ⟨by rfl, ?_⟩) ?_ ?_
        rotate_left
        · intro w'
          go_simp
          with_reducible rfl
        rotate_left
        · simp only [Act.put, List.setIfInBounds_toArray, List.set_cons_zero, List.set_cons_succ, i64_w, i32_w]
          rfl
        refine pure_ (i := 8) (N := some 29) (v := ?_) (a' := ?_) #[true, true, true, true, true, true, true, true, true, false, false, false] rfl rfl (by kernel_rfl) (fun _ _ _ h => h) (Or.inl ⟨by rfl, ?_⟩) ?_ ?_
        rotate_left
        · intro w'
          go_simp
          with_reducible rfl
        rotate_left
        · simp only [Act.put, List.setIfInBounds_toArray, List.set_cons_zero, List.set_cons_succ, i64_w, i32_w]
          rfl
        refine pure_ (i := 9) (N := some 30) (v := ?_) (a' := ?_) #[true, true, true, true, true, true, true, true, true, true, false, false] rfl rfl (by kernel_rfl) (fun _ _ _ h => h) (Or.inl ⟨by rfl, ?_⟩) ?_ ?_
        rotate_left
        · intro w'
          go_simp
          with_reducible rfl
        rotate_left
        · simp only [Act.put, List.setIfInBounds_toArray, List.set_cons_zero, List.set_cons_succ, i64_w, i32_w]
          rfl
        refine pure_ (i := 10) (N := some 5) (v := ?_) (a' := ?_) #[true, true, true, true, true, true, true, true, true, true, true, false] rfl rfl (by kernel_rfl) (fun _ _ _ h => h) (Or.inl ⟨by rfl, ?_⟩) ?_ ?_
        rotate_left
        · intro w'
          go_simp
          with_reducible rfl
        rotate_left
        · simp only [Act.put, List.setIfInBounds_toArray, List.set_cons_zero, List.set_cons_succ, i64_w, i32_w]
          rfl
        refine pure_ (i := 11) (N := some 6) (v := ?_) (a' := ?_) #[true, true, true, true, true, true, true, true, true, true, true, true] rfl rfl (by kernel_rfl) (fun _ _ _ h => h) (Or.inl ⟨by rfl, ?_⟩) ?_ ?_
        rotate_left
        · intro w'
          go_simp
          with_reducible rfl
        rotate_left
        · simp only [Act.put, List.setIfInBounds_toArray, List.set_cons_zero, List.set_cons_succ, i64_w, i32_w]
          rfl
        refine done_ (by kernel_rfl) ?_
        have n0_ : Aside0 (Kp w w2.drew (fun k => k = qb ∨ some k = vb)) := ⟨(Kp.then_ HK.out (Kp.of_below (below_drew1 (Below.refl _ w2)) (fun _ => False)) (fun _ h => h.elim))⟩
        have n1_ : Aside0 (QuAt w2.drew F qb mb vs (.slice (some ⟨g, 0, none⟩) n cap) L sn (x :: t)) := ⟨(QuAt.below HA.out (below_drew1 (Below.refl _ w2)))⟩
        have n2_ : Aside0 (w2.drew.heap[gr]? = some (.cells #[(.int .i64 0), (.int .i64 0), (.int .i64 0)] 30 (0, 0))) := ⟨(blk_below BKgr.out (below_drew1 (Below.refl _ w2)))⟩
        have n3_ : Aside0 (w2.drew.heap[ge]? = some (.cells #[(.int .i64 x.f0), (.int .i64 x.f1), (.int .i64 x.f2.f0), (.int .i64 x.f2.f1), (.int .i64 x.f2.f2)] 63 (0, 0))) := ⟨(blk_below BKge.out (below_drew1 (Below.refl _ w2)))⟩
        clear HK HA BKgr BKge
        have HK := n0_
        have HA := n1_
        have BKgr := n2_
        have BKge := n3_
        clear n0_ n1_ n2_ n3_
        generalize w2.drew = w3 at HK HA BKgr BKge ⊢
        go_wp2
        by_cases he : entryOf L sn x.f2 = x
        · have HE := Aside0.mk he
          clear he
          have HV : Aside0 (validE L sn x = true) := ⟨by unfold validE; rw [HW.out, HE.out]; simp⟩
          have hE0 : ((entryOf L sn x.f2).f0 == x.f0) = true := by rw [HE.out]; simp
          have hE1 : ((entryOf L sn x.f2).f1 == x.f1) = true := by rw [HE.out]; simp
          refine start_ (n := 9) (S := fun w' => w'.cell? ⟨ge, 0, none⟩ = some (.int .i64 x.f0) ∧ w'.cell? ⟨ge, 1, none⟩ = some (.int .i64 x.f1) ∧ w'.cell? ⟨ge, 2, none⟩ = some (.int .i64 x.f2.f0) ∧ w'.cell? ⟨ge, 3, none⟩ = some (.int .i64 x.f2.f1) ∧ w'.cell? ⟨ge, 4, none⟩ = some (.int .i64 x.f2.f2)) (ds := []) #[false, false, false, false, false, false, false, false, false] (by kernel_rfl) rfl rfl ⟨(blk_cell BKge.out 0).trans rfl, (blk_cell BKge.out 1).trans rfl, (blk_cell BKge.out 2).trans rfl, (blk_cell BKge.out 3).trans rfl, (blk_cell BKge.out 4).trans rfl⟩ (fun hHeld => ?_)
          refine pure_ (i := 0) (N := some 31) (v := ?_) (a' := ?_) #[true, false, false, false, false, false, false, false, false] rfl rfl (by kernel_rfl) (fun _ _ _ h => h) (Or.inl ⟨by rfl, ?_⟩) ?_ ?_
          rotate_left
          · intro w'
            go_simp
            with_reducible rfl
          rotate_left
          · simp only [Act.put, List.setIfInBounds_toArray, List.set_cons_zero, List.set_cons_succ, i64_w, i32_w]
            rfl
          refine pure_ (i := 1) (N := some 32) (v := ?_) (a' := ?_) #[true, true, false, false, false, false, false, false, false] rfl rfl (by kernel_rfl) (fun _ _ _ h => h) (Or.inl ⟨by rfl, ?_⟩) ?_ ?_
          rotate_left
          · intro w'
            go_simp
            with_reducible rfl
          rotate_left
          · simp only [Act.put, List.setIfInBounds_toArray, List.set_cons_zero, List.set_cons_succ, i64_w, i32_w]
            rfl
          refine pure_ (i := 2) (N := some 33) (v := ?_) (a' := ?_) #[true, true, true, false, false, false, false, false, false] rfl rfl (by kernel_rfl) (fun _ _ _ h => h) (Or.inl ⟨by rfl, ?_⟩) ?_ ?_
          rotate_left
          · intro w'
            go_simp
            with_reducible rfl
          rotate_left
          · simp only [Act.put, List.setIfInBounds_toArray, List.set_cons_zero, List.set_cons_succ, i64_w, i32_w]
            rfl
          refine pure_ (i := 3) (N := some 34) (v := ?_) (a' := ?_) #[true, true, true, true, false, false, false, false, false] rfl rfl (by kernel_rfl) (fun _ _ _ h => h) (Or.inl ⟨by rfl, ?_⟩) ?_ ?_
          rotate_left
          · intro w'
            go_simp
            with_reducible rfl
          rotate_left
          · simp only [Act.put, List.setIfInBounds_toArray, List.set_cons_zero, List.set_cons_succ, i64_w, i32_w]
            rfl
          refine take_ (i := 4) (N := some 35) (v := ?_) (a' := ?_) #[true, true, true, true, true, false, false, false, false] rfl rfl (by kernel_rfl) (fun _ _ _ h => h) (Or.inl ⟨by rfl, ?_⟩) hHeld ?_ ?_
          rotate_left
          · rintro w' ⟨s0, s1, s2, s3, s4⟩
            go_simp
            with_reducible rfl
          rotate_left
          · simp only [Act.put, List.setIfInBounds_toArray, List.set_cons_zero, List.set_cons_succ, i64_w, i32_w]
            rfl
          refine take_ (i := 6) (N := some 37) (v := ?_) (a' := ?_) #[true, true, true, true, true, false, true, false, false] rfl rfl (by kernel_rfl) (fun _ _ _ h => h) (Or.inl ⟨by rfl, ?_⟩) hHeld ?_ ?_
          rotate_left
          · rintro w' ⟨s0, s1, s2, s3, s4⟩
            go_simp
            with_reducible rfl
          rotate_left
          · simp only [Act.put, List.setIfInBounds_toArray, List.set_cons_zero, List.set_cons_succ, i64_w, i32_w]
            rfl
          refine one_ (i := 5) (N := some 36) #[true, true, true, true, true, true, true, false, false] rfl rfl (by kernel_rfl) (by decide) (fun K hK => ?_)
          refine goes_ Try.func26 (by kernel_rfl) rfl #[.pointer (some ⟨qb, 0, none⟩), .agg #[.int .i64 x.f2.f0, .int .i64 x.f2.f1, .int .i64 x.f2.f2]] (by rfl) rfl rfl (by simp only [List.map_toArray, List.map_cons, List.map_nil]; rfl) ?_
          with_reducible refine (of_calls _ F qb mb vs (.slice (some ⟨g, 0, none⟩) n cap) L sn (x :: t) HA.out.drew x.f2 HW0.out HSN.out).mono ?_
          rintro e w5 ⟨rfl, hb⟩
          refine ⟨_, rfl, ?_⟩
          have HB5 := Aside0.mk hb
          clear hb
          refine hK.out _ _ ⟨(blk_cell (blk_below (w := w3.drew) BKge.out HB5.out) 0).trans rfl, (blk_cell (blk_below (w := w3.drew) BKge.out HB5.out) 1).trans rfl, (blk_cell (blk_below (w := w3.drew) BKge.out HB5.out) 2).trans rfl, (blk_cell (blk_below (w := w3.drew) BKge.out HB5.out) 3).trans rfl, (blk_cell (blk_below (w := w3.drew) BKge.out HB5.out) 4).trans rfl⟩ (fun hHeld => ?_)
          clear hK K
          refine norm_ (a' := ?_) ?_ ?_
          rotate_left
          · show Act.put _ (some 36) _ = _
            simp only [Act.put, List.setIfInBounds_toArray, List.set_cons_zero, List.set_cons_succ, i64_w, i32_w]
            rfl
          refine pure_ (i := 7) (N := some 38) (v := ?_) (a' := ?_) #[true, true, true, true, true, true, true, true, false] rfl rfl (by kernel_rfl) (fun _ _ _ h => h) (Or.inl ⟨by rfl, ?_⟩) ?_ ?_
          rotate_left
          · intro w'
            go_simp
            with_reducible rfl
          rotate_left
          · simp only [Act.put, List.setIfInBounds_toArray, List.set_cons_zero, List.set_cons_succ, i64_w, i32_w]
            rfl
          refine pure_ (i := 8) (N := some 39) (v := ?_) (a' := ?_) #[true, true, true, true, true, true, true, true, true] rfl rfl (by kernel_rfl) (fun _ _ _ h => h) (Or.inl ⟨by rfl, ?_⟩) ?_ ?_
          rotate_left
          · intro w'
            go_simp
            with_reducible rfl
          rotate_left
          · simp only [Act.put, List.setIfInBounds_toArray, List.set_cons_zero, List.set_cons_succ, i64_w, i32_w]
            rfl
          refine done_ (by kernel_rfl) ?_
          clear hE0 hE1
          have hb5 : Below w3.heap.size w3 w5 := ⟨HB5.out.os, HB5.out.tape, HB5.out.output, HB5.out.size, HB5.out.block⟩
          have n0_ : Aside0 (Kp w w5 (fun k => k = qb ∨ some k = vb)) := ⟨(Kp.then_ HK.out (Kp.of_below hb5 (fun _ => False)) (fun _ h => h.elim))⟩
          have n1_ : Aside0 (QuAt w5 F qb mb vs (.slice (some ⟨g, 0, none⟩) n cap) L sn (x :: t)) := ⟨(QuAt.below HA.out hb5)⟩
          have n2_ : Aside0 (w5.heap[gr]? = some (.cells #[(.int .i64 0), (.int .i64 0), (.int .i64 0)] 30 (0, 0))) := ⟨(blk_below BKgr.out hb5)⟩
          have n3_ : Aside0 (w5.heap[ge]? = some (.cells #[(.int .i64 x.f0), (.int .i64 x.f1), (.int .i64 x.f2.f0), (.int .i64 x.f2.f1), (.int .i64 x.f2.f2)] 63 (0, 0))) := ⟨(blk_below BKge.out hb5)⟩
          clear HK HA BKgr BKge
          have HK := n0_
          have HA := n1_
          have BKgr := n2_
          have BKge := n3_
          clear n0_ n1_ n2_ n3_
          clear hb5 HB5
          have hgx2 : w5.cell? ⟨ge, 2, none⟩ = some (.int .i64 x.f2.f0) := (blk_cell BKge.out 2).trans rfl
          have hgx3 : w5.cell? ⟨ge, 3, none⟩ = some (.int .i64 x.f2.f1) := (blk_cell BKge.out 3).trans rfl
          have hgx4 : w5.cell? ⟨ge, 4, none⟩ = some (.int .i64 x.f2.f2) := (blk_cell BKge.out 4).trans rfl
          have hr0 : w5.cell? ⟨gr, 0, none⟩ = some (.int .i64 0) := (blk_cell BKgr.out 0).trans rfl
          have hrf0 := blk_frozen BKgr.out 0
          have hr1 : w5.cell? ⟨gr, 1, none⟩ = some (.int .i64 0) := (blk_cell BKgr.out 1).trans rfl
          have hrf1 := blk_frozen BKgr.out 1
          have hr2 : w5.cell? ⟨gr, 2, none⟩ = some (.int .i64 0) := (blk_cell BKgr.out 2).trans rfl
          have hrf2 := blk_frozen BKgr.out 2
          go_wp2
          clear hgx2 hgx3 hgx4 hr0 hr1 hr2 hrf0 hrf1 hrf2
          refine bodyPost_ret (results_ct rfl _ _ gr 30 #[(.int .i64 x.f2.f0), (.int .i64 x.f2.f1), (.int .i64 x.f2.f2)] (0, 0) _ rfl (by refine blk_put (cs := #[(.int .i64 x.f2.f0), (.int .i64 x.f2.f1), (.int .i64 0)]) ?_ 2 _ rfl; refine blk_put (cs := #[(.int .i64 x.f2.f0), (.int .i64 0), (.int .i64 0)]) ?_ 1 _ rfl; refine blk_put (cs := #[(.int .i64 0), (.int .i64 0), (.int .i64 0)]) ?_ 0 _ rfl; exact BKgr.out) Try.underlying30 rfl (by kernel_rfl)) rfl ?_
          have hgood : goodH L sn (hp.length + 1) hp = x :: t := by
            rw [← HU.out]
            show goodH L sn (t.length + 1 + 1) (x :: t) = _
            unfold goodH
            rw [if_pos HV.out]
          exact firstEnd (c := x.f2) (b := true) hgood rfl (QuAt.other HA.out BKgr.out (by decide) (by decide) (by decide) (fun k _ hk => put3_heap _ _ _ _ _ k hk)) (Kp.setCell (Kp.setCell (Kp.setCell HK.out (.inr GR.out) _) (.inr GR.out) _) (.inr GR.out) _) HVB.out
        · have HV : Aside0 (validE L sn x = false) := ⟨by unfold validE; rw [HW.out, decide_eq_false he]; rfl⟩
          by_cases he0 : (entryOf L sn x.f2).f0 = x.f0
          · have he1 : ¬ (entryOf L sn x.f2).f1 = x.f1 := fun e1 => he (by cases x; simp only [entryOf] at *; rw [he0, e1])
            clear he
            have HE0 := Aside0.mk he0
            have HE1 := Aside0.mk he1
            clear he0 he1
            have hE0 : ((entryOf L sn x.f2).f0 == x.f0) = true := by simpa using HE0.out
            have hE1 : ((entryOf L sn x.f2).f1 == x.f1) = false := by simpa using HE1.out
            refine start_ (n := 9) (S := fun w' => w'.cell? ⟨ge, 0, none⟩ = some (.int .i64 x.f0) ∧ w'.cell? ⟨ge, 1, none⟩ = some (.int .i64 x.f1) ∧ w'.cell? ⟨ge, 2, none⟩ = some (.int .i64 x.f2.f0) ∧ w'.cell? ⟨ge, 3, none⟩ = some (.int .i64 x.f2.f1) ∧ w'.cell? ⟨ge, 4, none⟩ = some (.int .i64 x.f2.f2)) (ds := []) #[false, false, false, false, false, false, false, false, false] (by kernel_rfl) rfl rfl ⟨(blk_cell BKge.out 0).trans rfl, (blk_cell BKge.out 1).trans rfl, (blk_cell BKge.out 2).trans rfl, (blk_cell BKge.out 3).trans rfl, (blk_cell BKge.out 4).trans rfl⟩ (fun hHeld => ?_)
            refine pure_ (i := 0) (N := some 31) (v := ?_) (a' := ?_) #[true, false, false, false, false, false, false, false, false] rfl rfl (by kernel_rfl) (fun _ _ _ h => h) (Or.inl ⟨by rfl, ?_⟩) ?_ ?_
            rotate_left
            · intro w'
              go_simp
              with_reducible rfl
            rotate_left
            · simp only [Act.put, List.setIfInBounds_toArray, List.set_cons_zero, List.set_cons_succ, i64_w, i32_w]
              rfl
            refine pure_ (i := 1) (N := some 32) (v := ?_) (a' := ?_) #[true, true, false, false, false, false, false, false, false] rfl rfl (by kernel_rfl) (fun _ _ _ h => h) (Or.inl ⟨by rfl, ?_⟩) ?_ ?_
            rotate_left
            · intro w'
              go_simp
              with_reducible rfl
            rotate_left
            · simp only [Act.put, List.setIfInBounds_toArray, List.set_cons_zero, List.set_cons_succ, i64_w, i32_w]
              rfl
            refine pure_ (i := 2) (N := some 33) (v := ?_) (a' := ?_) #[true, true, true, false, false, false, false, false, false] rfl rfl (by kernel_rfl) (fun _ _ _ h => h) (Or.inl ⟨by rfl, ?_⟩) ?_ ?_
            rotate_left
            · intro w'
              go_simp
              with_reducible rfl
            rotate_left
            · simp only [Act.put, List.setIfInBounds_toArray, List.set_cons_zero, List.set_cons_succ, i64_w, i32_w]
              rfl
            refine pure_ (i := 3) (N := some 34) (v := ?_) (a' := ?_) #[true, true, true, true, false, false, false, false, false] rfl rfl (by kernel_rfl) (fun _ _ _ h => h) (Or.inl ⟨by rfl, ?_⟩) ?_ ?_
            rotate_left
            · intro w'
              go_simp
              with_reducible rfl
            rotate_left
            · simp only [Act.put, List.setIfInBounds_toArray, List.set_cons_zero, List.set_cons_succ, i64_w, i32_w]
              rfl
            refine take_ (i := 4) (N := some 35) (v := ?_) (a' := ?_) #[true, true, true, true, true, false, false, false, false] rfl rfl (by kernel_rfl) (fun _ _ _ h => h) (Or.inl ⟨by rfl, ?_⟩) hHeld ?_ ?_
            rotate_left
            · rintro w' ⟨s0, s1, s2, s3, s4⟩
              go_simp
              with_reducible rfl
            rotate_left
            · simp only [Act.put, List.setIfInBounds_toArray, List.set_cons_zero, List.set_cons_succ, i64_w, i32_w]
              rfl
            refine take_ (i := 6) (N := some 37) (v := ?_) (a' := ?_) #[true, true, true, true, true, false, true, false, false] rfl rfl (by kernel_rfl) (fun _ _ _ h => h) (Or.inl ⟨by rfl, ?_⟩) hHeld ?_ ?_
            rotate_left
            · rintro w' ⟨s0, s1, s2, s3, s4⟩
              go_simp
              with_reducible rfl
            rotate_left
            · simp only [Act.put, List.setIfInBounds_toArray, List.set_cons_zero, List.set_cons_succ, i64_w, i32_w]
              rfl
            refine one_ (i := 5) (N := some 36) #[true, true, true, true, true, true, true, false, false] rfl rfl (by kernel_rfl) (by decide) (fun K hK => ?_)
            refine goes_ Try.func26 (by kernel_rfl) rfl #[.pointer (some ⟨qb, 0, none⟩), .agg #[.int .i64 x.f2.f0, .int .i64 x.f2.f1, .int .i64 x.f2.f2]] (by rfl) rfl rfl (by simp only [List.map_toArray, List.map_cons, List.map_nil]; rfl) ?_
            with_reducible refine (of_calls _ F qb mb vs (.slice (some ⟨g, 0, none⟩) n cap) L sn (x :: t) HA.out.drew x.f2 HW0.out HSN.out).mono ?_
            rintro e w5 ⟨rfl, hb⟩
            refine ⟨_, rfl, ?_⟩
            have HB5 := Aside0.mk hb
            clear hb
            refine hK.out _ _ ⟨(blk_cell (blk_below (w := w3.drew) BKge.out HB5.out) 0).trans rfl, (blk_cell (blk_below (w := w3.drew) BKge.out HB5.out) 1).trans rfl, (blk_cell (blk_below (w := w3.drew) BKge.out HB5.out) 2).trans rfl, (blk_cell (blk_below (w := w3.drew) BKge.out HB5.out) 3).trans rfl, (blk_cell (blk_below (w := w3.drew) BKge.out HB5.out) 4).trans rfl⟩ (fun hHeld => ?_)
            clear hK K
            refine norm_ (a' := ?_) ?_ ?_
            rotate_left
            · show Act.put _ (some 36) _ = _
              simp only [Act.put, List.setIfInBounds_toArray, List.set_cons_zero, List.set_cons_succ, i64_w, i32_w]
              rfl
            refine pure_ (i := 7) (N := some 38) (v := ?_) (a' := ?_) #[true, true, true, true, true, true, true, true, false] rfl rfl (by kernel_rfl) (fun _ _ _ h => h) (Or.inl ⟨by rfl, ?_⟩) ?_ ?_
            rotate_left
            · intro w'
              go_simp
              with_reducible rfl
            rotate_left
            · simp only [Act.put, List.setIfInBounds_toArray, List.set_cons_zero, List.set_cons_succ, i64_w, i32_w]
              rfl
            refine pure_ (i := 8) (N := some 39) (v := ?_) (a' := ?_) #[true, true, true, true, true, true, true, true, true] rfl rfl (by kernel_rfl) (fun _ _ _ h => h) (Or.inl ⟨by rfl, ?_⟩) ?_ ?_
            rotate_left
            · intro w'
              go_simp
              with_reducible rfl
            rotate_left
            · simp only [Act.put, List.setIfInBounds_toArray, List.set_cons_zero, List.set_cons_succ, i64_w, i32_w]
              rfl
            refine done_ (by kernel_rfl) ?_
            clear hE0 hE1
            have hb5 : Below w3.heap.size w3 w5 := ⟨HB5.out.os, HB5.out.tape, HB5.out.output, HB5.out.size, HB5.out.block⟩
            have n0_ : Aside0 (Kp w w5 (fun k => k = qb ∨ some k = vb)) := ⟨(Kp.then_ HK.out (Kp.of_below hb5 (fun _ => False)) (fun _ h => h.elim))⟩
            have n1_ : Aside0 (QuAt w5 F qb mb vs (.slice (some ⟨g, 0, none⟩) n cap) L sn (x :: t)) := ⟨(QuAt.below HA.out hb5)⟩
            have n2_ : Aside0 (w5.heap[gr]? = some (.cells #[(.int .i64 0), (.int .i64 0), (.int .i64 0)] 30 (0, 0))) := ⟨(blk_below BKgr.out hb5)⟩
            have n3_ : Aside0 (w5.heap[ge]? = some (.cells #[(.int .i64 x.f0), (.int .i64 x.f1), (.int .i64 x.f2.f0), (.int .i64 x.f2.f1), (.int .i64 x.f2.f2)] 63 (0, 0))) := ⟨(blk_below BKge.out hb5)⟩
            clear HK HA BKgr BKge
            have HK := n0_
            have HA := n1_
            have BKgr := n2_
            have BKge := n3_
            clear n0_ n1_ n2_ n3_
            clear hb5 HB5
            have hc2 : w5.cell? ⟨qb, 2, none⟩ = some (.slice (some ⟨g, 0, none⟩) n cap) := (blk_cell HA.out.blk 2).trans rfl
            go_wp2_with (go_at_call 29; (with_reducible refine (pop_calls w5 F qb mb vs g n cap (n - 1) (x :: t) (QuAt.qb HA.out) HA.out.heap (by have := HNB.out.1; omega) HNB.out.2).mono ?_); rintro e w9 ⟨rfl, hq9, hr9, hk9⟩; have HQ9 := Aside0.mk hq9; have HR9 := Aside0.mk hr9; have HK9 := Aside0.mk hk9; clear hq9 hr9 hk9)
            go_roundg (t.length + 1)
            case measure => have := HGG.out; simp only [List.length_cons] at this; omega
            case rel =>
              have hpl : (popH (x :: t)).length = t.length := (popH_perm x t).length_eq
              have hnt : n - 1 = (popH (x :: t)).length := by rw [hpl]; have := HN.out; simp only [List.length_cons] at this; omega
              have hA9 : QuAt w9 F qb mb vs (.slice (some ⟨g, 0, none⟩) (n - 1) cap) L sn (popH (x :: t)) := QuAt.afterHeap HA.out HQ9.out HR9.out (HK9.out.mono (fun k hk => hk.imp id (fun e => by rw [e]; rfl))) (fun k hk => hk)
              rw [hnt] at hA9
              have hgr : w9.heap[gr]? = some (.cells #[(.int .i64 0), (.int .i64 0), (.int .i64 0)] 30 (0, 0)) := HK9.out.blk BKgr.out (fun e => by
        rcases e with e | e
        · exact blk_ne BKgr.out HA.out.blk (by decide) e
        · exact Kd.R_ne HA.out.heap BKgr.out (by decide) (by rw [e]; rfl))
              have hgood : goodH L sn ((popH (x :: t)).length + 1) (popH (x :: t)) = goodH L sn (hp.length + 1) hp := by
                rw [← HU.out]
                show _ = goodH L sn (t.length + 1 + 1) (x :: t)
                conv => rhs; unfold goodH
                rw [if_neg (by simp only [Bool.not_eq_true]; exact HV.out)]
                exact goodH_fuel L sn _ _ _ (by omega) (by rw [hpl]; omega)
              exact ⟨popH (x :: t), by omega, ⟨by rw [hpl]; have := HNB.out.2; have := HN.out; simp only [List.length_cons] at this; omega, fun y hy => HWF.out.2 y (popH_mem (by simp) hy)⟩, ⟨hA9⟩, ⟨hgr⟩, ⟨HK.out.then_ HK9.out (fun k hk => .inl (hk.imp id (fun e => by rw [e, HVB.out]; rfl)))⟩, ⟨hgood⟩⟩
          · clear he
            have HE0 := Aside0.mk he0
            clear he0
            have hE0 : ((entryOf L sn x.f2).f0 == x.f0) = false := by simpa using HE0.out
            refine start_ (n := 9) (S := fun w' => w'.cell? ⟨ge, 0, none⟩ = some (.int .i64 x.f0) ∧ w'.cell? ⟨ge, 1, none⟩ = some (.int .i64 x.f1) ∧ w'.cell? ⟨ge, 2, none⟩ = some (.int .i64 x.f2.f0) ∧ w'.cell? ⟨ge, 3, none⟩ = some (.int .i64 x.f2.f1) ∧ w'.cell? ⟨ge, 4, none⟩ = some (.int .i64 x.f2.f2)) (ds := []) #[false, false, false, false, false, false, false, false, false] (by kernel_rfl) rfl rfl ⟨(blk_cell BKge.out 0).trans rfl, (blk_cell BKge.out 1).trans rfl, (blk_cell BKge.out 2).trans rfl, (blk_cell BKge.out 3).trans rfl, (blk_cell BKge.out 4).trans rfl⟩ (fun hHeld => ?_)
            refine pure_ (i := 0) (N := some 31) (v := ?_) (a' := ?_) #[true, false, false, false, false, false, false, false, false] rfl rfl (by kernel_rfl) (fun _ _ _ h => h) (Or.inl ⟨by rfl, ?_⟩) ?_ ?_
            rotate_left
            · intro w'
              go_simp
              with_reducible rfl
            rotate_left
            · simp only [Act.put, List.setIfInBounds_toArray, List.set_cons_zero, List.set_cons_succ, i64_w, i32_w]
              rfl
            refine pure_ (i := 1) (N := some 32) (v := ?_) (a' := ?_) #[true, true, false, false, false, false, false, false, false] rfl rfl (by kernel_rfl) (fun _ _ _ h => h) (Or.inl ⟨by rfl, ?_⟩) ?_ ?_
            rotate_left
            · intro w'
              go_simp
              with_reducible rfl
            rotate_left
            · simp only [Act.put, List.setIfInBounds_toArray, List.set_cons_zero, List.set_cons_succ, i64_w, i32_w]
              rfl
            refine pure_ (i := 2) (N := some 33) (v := ?_) (a' := ?_) #[true, true, true, false, false, false, false, false, false] rfl rfl (by kernel_rfl) (fun _ _ _ h => h) (Or.inl ⟨by rfl, ?_⟩) ?_ ?_
            rotate_left
            · intro w'
              go_simp
              with_reducible rfl
            rotate_left
            · simp only [Act.put, List.setIfInBounds_toArray, List.set_cons_zero, List.set_cons_succ, i64_w, i32_w]
              rfl
            refine pure_ (i := 3) (N := some 34) (v := ?_) (a' := ?_) #[true, true, true, true, false, false, false, false, false] rfl rfl (by kernel_rfl) (fun _ _ _ h => h) (Or.inl ⟨by rfl, ?_⟩) ?_ ?_
            rotate_left
            · intro w'
              go_simp
              with_reducible rfl
            rotate_left
            · simp only [Act.put, List.setIfInBounds_toArray, List.set_cons_zero, List.set_cons_succ, i64_w, i32_w]
              rfl
            refine take_ (i := 4) (N := some 35) (v := ?_) (a' := ?_) #[true, true, true, true, true, false, false, false, false] rfl rfl (by kernel_rfl) (fun _ _ _ h => h) (Or.inl ⟨by rfl, ?_⟩) hHeld ?_ ?_
            rotate_left
            · rintro w' ⟨s0, s1, s2, s3, s4⟩
              go_simp
              with_reducible rfl
            rotate_left
            · simp only [Act.put, List.setIfInBounds_toArray, List.set_cons_zero, List.set_cons_succ, i64_w, i32_w]
              rfl
            refine take_ (i := 6) (N := some 37) (v := ?_) (a' := ?_) #[true, true, true, true, true, false, true, false, false] rfl rfl (by kernel_rfl) (fun _ _ _ h => h) (Or.inl ⟨by rfl, ?_⟩) hHeld ?_ ?_
            rotate_left
            · rintro w' ⟨s0, s1, s2, s3, s4⟩
              go_simp
              with_reducible rfl
            rotate_left
            · simp only [Act.put, List.setIfInBounds_toArray, List.set_cons_zero, List.set_cons_succ, i64_w, i32_w]
              rfl
            refine one_ (i := 5) (N := some 36) #[true, true, true, true, true, true, true, false, false] rfl rfl (by kernel_rfl) (by decide) (fun K hK => ?_)
            refine goes_ Try.func26 (by kernel_rfl) rfl #[.pointer (some ⟨qb, 0, none⟩), .agg #[.int .i64 x.f2.f0, .int .i64 x.f2.f1, .int .i64 x.f2.f2]] (by rfl) rfl rfl (by simp only [List.map_toArray, List.map_cons, List.map_nil]; rfl) ?_
            with_reducible refine (of_calls _ F qb mb vs (.slice (some ⟨g, 0, none⟩) n cap) L sn (x :: t) HA.out.drew x.f2 HW0.out HSN.out).mono ?_
            rintro e w5 ⟨rfl, hb⟩
            refine ⟨_, rfl, ?_⟩
            have HB5 := Aside0.mk hb
            clear hb
            refine hK.out _ _ ⟨(blk_cell (blk_below (w := w3.drew) BKge.out HB5.out) 0).trans rfl, (blk_cell (blk_below (w := w3.drew) BKge.out HB5.out) 1).trans rfl, (blk_cell (blk_below (w := w3.drew) BKge.out HB5.out) 2).trans rfl, (blk_cell (blk_below (w := w3.drew) BKge.out HB5.out) 3).trans rfl, (blk_cell (blk_below (w := w3.drew) BKge.out HB5.out) 4).trans rfl⟩ (fun hHeld => ?_)
            clear hK K
            refine norm_ (a' := ?_) ?_ ?_
            rotate_left
            · show Act.put _ (some 36) _ = _
              simp only [Act.put, List.setIfInBounds_toArray, List.set_cons_zero, List.set_cons_succ, i64_w, i32_w]
              rfl
            refine pure_ (i := 7) (N := some 38) (v := ?_) (a' := ?_) #[true, true, true, true, true, true, true, true, false] rfl rfl (by kernel_rfl) (fun _ _ _ h => h) (Or.inl ⟨by rfl, ?_⟩) ?_ ?_
            rotate_left
            · intro w'
              go_simp
              with_reducible rfl
            rotate_left
            · simp only [Act.put, List.setIfInBounds_toArray, List.set_cons_zero, List.set_cons_succ, i64_w, i32_w]
              rfl
            refine pure_ (i := 8) (N := some 39) (v := ?_) (a' := ?_) #[true, true, true, true, true, true, true, true, true] rfl rfl (by kernel_rfl) (fun _ _ _ h => h) (Or.inl ⟨by rfl, ?_⟩) ?_ ?_
            rotate_left
            · intro w'
              go_simp
              with_reducible rfl
            rotate_left
            · simp only [Act.put, List.setIfInBounds_toArray, List.set_cons_zero, List.set_cons_succ, i64_w, i32_w]
              rfl
            refine done_ (by kernel_rfl) ?_
            clear hE0
            have hb5 : Below w3.heap.size w3 w5 := ⟨HB5.out.os, HB5.out.tape, HB5.out.output, HB5.out.size, HB5.out.block⟩
            have n0_ : Aside0 (Kp w w5 (fun k => k = qb ∨ some k = vb)) := ⟨(Kp.then_ HK.out (Kp.of_below hb5 (fun _ => False)) (fun _ h => h.elim))⟩
            have n1_ : Aside0 (QuAt w5 F qb mb vs (.slice (some ⟨g, 0, none⟩) n cap) L sn (x :: t)) := ⟨(QuAt.below HA.out hb5)⟩
            have n2_ : Aside0 (w5.heap[gr]? = some (.cells #[(.int .i64 0), (.int .i64 0), (.int .i64 0)] 30 (0, 0))) := ⟨(blk_below BKgr.out hb5)⟩
            have n3_ : Aside0 (w5.heap[ge]? = some (.cells #[(.int .i64 x.f0), (.int .i64 x.f1), (.int .i64 x.f2.f0), (.int .i64 x.f2.f1), (.int .i64 x.f2.f2)] 63 (0, 0))) := ⟨(blk_below BKge.out hb5)⟩
            clear HK HA BKgr BKge
            have HK := n0_
            have HA := n1_
            have BKgr := n2_
            have BKge := n3_
            clear n0_ n1_ n2_ n3_
            clear hb5 HB5
            have hc2 : w5.cell? ⟨qb, 2, none⟩ = some (.slice (some ⟨g, 0, none⟩) n cap) := (blk_cell HA.out.blk 2).trans rfl
            go_wp2_with (go_at_call 29; (with_reducible refine (pop_calls w5 F qb mb vs g n cap (n - 1) (x :: t) (QuAt.qb HA.out) HA.out.heap (by have := HNB.out.1; omega) HNB.out.2).mono ?_); rintro e w9 ⟨rfl, hq9, hr9, hk9⟩; have HQ9 := Aside0.mk hq9; have HR9 := Aside0.mk hr9; have HK9 := Aside0.mk hk9; clear hq9 hr9 hk9)
            go_roundg (t.length + 1)
            case measure => have := HGG.out; simp only [List.length_cons] at this; omega
            case rel =>
              have hpl : (popH (x :: t)).length = t.length := (popH_perm x t).length_eq
              have hnt : n - 1 = (popH (x :: t)).length := by rw [hpl]; have := HN.out; simp only [List.length_cons] at this; omega
              have hA9 : QuAt w9 F qb mb vs (.slice (some ⟨g, 0, none⟩) (n - 1) cap) L sn (popH (x :: t)) := QuAt.afterHeap HA.out HQ9.out HR9.out (HK9.out.mono (fun k hk => hk.imp id (fun e => by rw [e]; rfl))) (fun k hk => hk)
              rw [hnt] at hA9
              have hgr : w9.heap[gr]? = some (.cells #[(.int .i64 0), (.int .i64 0), (.int .i64 0)] 30 (0, 0)) := HK9.out.blk BKgr.out (fun e => by
        rcases e with e | e
        · exact blk_ne BKgr.out HA.out.blk (by decide) e
        · exact Kd.R_ne HA.out.heap BKgr.out (by decide) (by rw [e]; rfl))
              have hgood : goodH L sn ((popH (x :: t)).length + 1) (popH (x :: t)) = goodH L sn (hp.length + 1) hp := by
                rw [← HU.out]
                show _ = goodH L sn (t.length + 1 + 1) (x :: t)
                conv => rhs; unfold goodH
                rw [if_neg (by simp only [Bool.not_eq_true]; exact HV.out)]
                exact goodH_fuel L sn _ _ _ (by omega) (by rw [hpl]; omega)
              exact ⟨popH (x :: t), by omega, ⟨by rw [hpl]; have := HNB.out.2; have := HN.out; simp only [List.length_cons] at this; omega, fun y hy => HWF.out.2 y (popH_mem (by simp) hy)⟩, ⟨hA9⟩, ⟨hgr⟩, ⟨HK.out.then_ HK9.out (fun k hk => .inl (hk.imp id (fun e => by rw [e, HVB.out]; rfl)))⟩, ⟨hgood⟩⟩
end Go.Proofs.Ytgkbcgmcpbbneaa.Q
