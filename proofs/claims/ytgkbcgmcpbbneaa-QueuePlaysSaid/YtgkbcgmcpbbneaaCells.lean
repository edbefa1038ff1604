/- The walk of queue.Cells. -/
import Derived.Test.YtgkbcgmcpbbneaaSee
import Derived.Test.YtgkbcgmcpbbneaaSrt2
namespace Go.Proofs.Ytgkbcgmcpbbneaa.Q
open Go Go.RowKit Go.Maps Go.Proofs.YtgkbcgmcpbbneaaW.PrintWords Go.Proofs.YtgkbcgmcpbbneaaW.PrintLast Go.Proofs.YtgkbcgmcpbbneaaW.PrintMore
attribute [local go_sem] max2_int min2_int max_two min_two max_three min_three max_four min_four
set_option maxRecDepth 100000
set_option linter.unusedVariables false
set_option linter.unusedSimpArgs false
theorem info30 : (Try.prog.info? 30).map (fun i => (i.zero, i.size, i.bytes)) = some (some (.agg #[.int .i64 0, .int .i64 0, .int .i64 0]), 3, 24) := by kernel_rfl
theorem sorted_pw (xs : List S63) : (sortS xs).Pairwise le63 := by
  have h := List.pairwise_mergeSort (le := fun x y : S63 => !(ltOf ordE) y x) (fun a b c h1 h2 => by
    simp only [ltOf_ordE, Bool.not_eq_true'] at *
    exact le63_trans h1 h2) (fun a b => by
    simp only [ltOf_ordE]
    cases h1 : ltE b a with
    | false => rfl
    | true => rw [ltE_asymm h1]; rfl) xs
  exact h.imp (fun {a b} h1 => by simpa [ltOf_ordE, le63] using h1)
theorem eq_of_sorted : ∀ (l1 l2 : List S63), l1.Pairwise le63 → l2.Pairwise le63 → l1.Perm l2 → l1 = l2
  | [], l2, _, _, h => (List.nil_perm.1 h).symm
  | a :: l1, [], _, _, h => by have := h.length_eq; simp at this
  | a :: l1, b :: l2, h1, h2, h => by
    have hab : a = b := by
      have ha : a ∈ b :: l2 := h.mem_iff.1 (List.mem_cons_self ..)
      have hb : b ∈ a :: l1 := h.mem_iff.2 (List.mem_cons_self ..)
      rcases List.mem_cons.1 ha with e | ha
      · exact e
      · rcases List.mem_cons.1 hb with e | hb
        · exact e.symm
        · exact le63_antisymm ((List.pairwise_cons.1 h1).1 b hb) ((List.pairwise_cons.1 h2).1 a ha)
    subst hab
    rw [eq_of_sorted l1 l2 (List.pairwise_cons.1 h1).2 (List.pairwise_cons.1 h2).2 (List.perm_cons a |>.1 h)]
theorem sortS_perm (xs : List S63) : (sortS xs).Perm xs := List.mergeSort_perm ..
theorem sortS_of_perm {xs ys : List S63} (h : xs.Perm ys) : sortS xs = sortS ys := eq_of_sorted _ _ (sorted_pw _) (sorted_pw _) ((sortS_perm xs).trans (h.trans (sortS_perm ys).symm))
def entsOf (L : List Wt) (sn : List S46) : List S63 := L.map (fun p => entryOf L sn p.1)
def cellsOf (L : List Wt) (sn : List S46) : List S30 := (sortS (entsOf L sn)).map (·.f2)
theorem ents_perm {L : List Wt} {sn : List S46} {done : List S30} (h : done.Perm (L.map (·.1))) : sortS (done.map (entryOf L sn)) = sortS (entsOf L sn) := by
  refine sortS_of_perm ((h.map _).trans ?_)
  unfold entsOf
  rw [List.map_map]
  exact List.Perm.refl _
theorem sort_any (w : World) (F : Nat → Prop) (v : Value) (xs : List S63) (hR : Kd.R k63 63 w 0 F v xs) (hn : xs.length ≤ 1000000) :
    Calls Try.prog 27 #[v, .func (.func 28) #[] #[]] w fun e w' => e = .returned (.tuple #[]) ∧ Kd.R k63 63 w' 0 F v (sortS xs) ∧ Kp w w' (fun k => some k = v.ownBlock) := by
  obtain ⟨A, c, rfl⟩ := Kd.R_slice hR
  obtain ⟨hok, inner, ⟨hin, hor⟩, hreps⟩ := id hR
  rcases hor with ⟨hv, hz⟩ | ⟨g', cap', cur, hv, hb0, hb, h1, h2, h3, h4⟩
  · have hx : xs = [] := List.eq_nil_of_length_eq_zero hz
    subst hx
    injection hv with h1 _ h3
    subst h1; subst h3
    refine Calls.mono (AnyF.slices_SortFunc_none sortE none 0 (.func (.func 28) #[] #[]) w) fun e w' ⟨he, hw⟩ => ?_
    subst hw
    exact ⟨he, by rw [show sortS [] = [] by simp [sortS]]; exact Kd.R_nil _ _ _ _ _, Kp.refl _ _⟩
  · injection hv with ha _ hc
    subst ha; subst hc
    refine (sort_calls w F g' xs.length c xs hR hn).mono fun e w' ⟨he, hr, hk⟩ => ⟨he, hr, hk.mono (fun k hk => by rw [hk]; rfl)⟩
theorem Rng.row {w w' : World} {mb r : Nat} {L : List Wt} {done : List S30} {α : Type} {d : Kd α} {e base : Nat} {ok : Nat → Prop} {v : Value} {xs : List α} (h : Rng w mb r L done) (hR : d.R e w base ok v xs) (hg : w.grownBy w' v.ownBlock) : Rng w' mb r L done := by
  obtain ⟨m, since, seen, c0, hrr⟩ := h.obj
  refine h.move (hg.block mb h.mapAt.lt (fun e => R_ne_map hR h.mapAt e.symm)) (hg.block r h.lt (fun e => ?_))
  obtain ⟨cells, hc⟩ := Kd.R_typed hR r e.symm
  rw [hrr] at hc; cases hc
def CellsPost (w : World) (L : List Wt) (sn : List S46) (e : Ending) (w' : World) : Prop :=
  ∃ v, e = .returned v ∧ Kd.R k30 30 w' 0 (fun k => w.heap.size ≤ k) v (cellsOf L sn) ∧ Below w.heap.size w w'

set_option maxHeartbeats 8000000 in
theorem cells_calls (w : World) (F : Nat → Prop) (qb mb : Nat) (vs vh : Value) (L : List Wt) (sn : List S46) (hp : List S63) (hQ : QuAt w F qb mb vs vh L sn hp) (hL : L.length ≤ 1000000) (hs : sn.length ≤ 1000000) : Calls Try.prog 11 #[.pointer (some ⟨qb, 0, none⟩)] w (CellsPost w L sn) := by
  have hu63 := Try.underlying63
  have hu61 := Try.underlying61
  have hu55 := Try.underlying55
  have hu30 := Try.underlying30
  have HA := Aside0.mk hQ
  have HLL := Aside0.mk hL
  have HSN := Aside0.mk hs
  clear hQ hL hs
  have hcq : w.cell? ⟨qb, 0, none⟩ = some (.map (some mb)) := (blk_cell HA.out.blk 0).trans rfl
  go_enter Try.func11, Try.ntmps11
  go_wp2_with (at_range; refine wpList_range_at _ rfl _ rfl rfl HA.out.map ?_; intro w3 hrg hg hs; have HRG := Aside0.mk hrg; have HG := Aside0.mk hg; clear hrg hg hs hcq)
  go_frame
  obtain ⟨r, hr⟩ : ∃ r, r = w.heap.size := ⟨_, rfl⟩
  rw [← hr] at HRG ⊢
  have HNR : Aside0 (w.heap.size ≤ r) := ⟨by rw [hr]; exact Nat.le_refl _⟩
  clear hr
  have HB : Aside0 (Below w.heap.size w w3) := ⟨(Below.refl _ _).grown HG.out (Nat.le_refl _) (fun k hk => by cases hk)⟩
  clear HG
  have HV : Aside0 (Kd.R k63 63 w3 0 (fun k => w.heap.size ≤ k) (.slice none 0 0) (([] : List S30).map (entryOf L sn))) := ⟨Kd.R_nil _ _ _ _ _⟩
  go_loopg [3] (L.length + 1) (fun gg v3 wr => ∃ (done : List S30), L.length - done.length + 1 ≤ gg ∧ Aside0 (Kd.R k63 63 wr 0 (fun k => w.heap.size ≤ k) v3 (done.map (entryOf L sn))) ∧ Aside0 (Rng wr mb r L done) ∧ Aside0 (Below w.heap.size w wr))
  case atStart => exact ⟨[], by simp, HV, HRG, HB⟩
  case round =>
    clear HV HRG HB
    obtain ⟨done, hgg, HV, HRG, HB⟩ := hrel
    have HGG := Aside0.mk hgg
    clear hgg
    go_wp2_with (at_next; refine wpList_next_at _ rfl _ rfl rfl HRG.out ?_ ?_)
    · intro hperm
      have HP : Aside0 (sortS (done.map (entryOf L sn)) = sortS (entsOf L sn)) := ⟨ents_perm hperm⟩
      have HDL : Aside0 ((done.map (entryOf L sn)).length ≤ 1000000) := ⟨by rw [List.length_map, hperm.length_eq, List.length_map]; exact HLL.out⟩
      clear hperm
      go_wp2_with (go_at_call 27; (with_reducible refine (sort_any _ (fun k => w.heap.size ≤ k) u3 _ HV.out HDL.out).mono ?_); rintro e w4 ⟨rfl, hr4, hk4⟩; have HB4 : Aside0 (Below w.heap.size w w4) := ⟨HB.out.trans (hk4.below HB.out.size (fun k hk => HV.out.1 k hk.symm))⟩; have HR4 := Aside0.mk hr4; clear hr4 hk4; rw [HP.out] at HR4; obtain ⟨A, cap, ev⟩ := Kd.R_slice HR4.out; obtain ⟨ys, hys⟩ : ∃ ys, ys = sortS (entsOf L sn) := ⟨_, rfl⟩; rw [← hys] at HR4 ev; subst ev; have HYS := Aside0.mk hys; clear hys)
      have HYL : Aside0 (ys.length ≤ 1000000) := ⟨by rw [HYS.out, (sortS_perm _).length_eq]; unfold entsOf; rw [List.length_map]; exact HLL.out⟩
      have HV5 : Aside0 (Kd.R k30 30 w4 0 (fun k => w.heap.size ≤ k) (.slice none 0 0) ((ys.take 0).map (·.f2))) := ⟨Kd.R_nil _ _ _ _ _⟩
      clear HV HRG HB HGG HP HDL
      go_loopw [5, 27] (fun v5 v27 wr => ∃ i : Nat, v27 = .int .i64 (i : Int) ∧ Aside0 (i ≤ ys.length) ∧ Aside0 (Kd.R k30 30 wr 0 (fun k => w.heap.size ≤ k) v5 ((ys.take i).map (·.f2))) ∧ Aside0 (Kd.R k63 63 wr 0 (fun k => w.heap.size ≤ k) (.slice A ys.length cap) ys) ∧ Aside0 (Below w.heap.size w wr)) (fun _ v27 _ => ys.length - (intOf v27).toNat)
      case atStart => exact ⟨0, rfl, ⟨Nat.zero_le _⟩, HV5, HR4, HB4⟩
      case round =>
        clear HV5 HR4 HB4
        obtain ⟨i, rfl, HI, HV, HR, HB⟩ := hrel
        have hi := HI.out
        have hyl := HYL.out
        by_cases hil : i < ys.length
        · have hcb : decide ((i : Int) < (ys.length : Int)) = true := decide_eq_true (by omega)
          have hic : ((i : Int) < (ys.length : Int)) = True := eq_true (by omega)
          have hi0 : ((0 : Int) ≤ (i : Int)) = True := eq_true (by omega)
          have hw1 : IntKind.i64.wrap ((i : Int) + 1) = (i : Int) + 1 := by rw [IntKind.wrap_i64]; omega
          obtain ⟨x, hx⟩ : ∃ x, g63 ys i = x := ⟨_, rfl⟩
          have HX := Aside0.mk hx
          obtain ⟨g, cap2, hv, _, _, _⟩ := Kd.R_form HR.out (by omega)
          injection hv with hA _ hc2
          subst hA
          subst hc2
          have HE : Aside0 ((∀ j v, (ec x)[j]? = some v → wr.cell? ⟨g, i * 5 + j, none⟩ = some v) ∧ ∀ j, wr.frozen? ⟨g, i * 5 + j, none⟩ = false) := ⟨by have := elem63 HR.out i (by omega); rwa [hx] at this⟩
          clear hx
          have hx0 : wr.cell? ⟨g, i * 5, none⟩ = some (.int .i64 x.f0) := HE.out.1 0 _ rfl
          have hx1 : wr.cell? ⟨g, i * 5 + 1, none⟩ = some (.int .i64 x.f1) := HE.out.1 1 _ rfl
          have hx2 : wr.cell? ⟨g, i * 5 + 2, none⟩ = some (.int .i64 x.f2.f0) := HE.out.1 2 _ rfl
          have hx3 : wr.cell? ⟨g, i * 5 + 3, none⟩ = some (.int .i64 x.f2.f1) := HE.out.1 3 _ rfl
          have hx4 : wr.cell? ⟨g, i * 5 + 4, none⟩ = some (.int .i64 x.f2.f2) := HE.out.1 4 _ rfl
          go_wp2_with (first | ((with_reducible refine gate_dst (N := 7) rfl ?_); refine box_event ?hg (N := 7) ?hd (cs := #[(.int .i64 0), (.int .i64 0), (.int .i64 0), (.int .i64 0), (.int .i64 0)]) (t := 63) ?hr ?_; (case hd => rfl); (case hg => rfl); (case hr => first | (go_simp; done) | (go_simp; rfl)); intro ge hge w5 hbox hb; have HBX := Aside0.mk hb; have GEX : Aside0 (wr.heap.size ≤ ge) := ⟨by rw [hge]; exact Nat.le_refl _⟩; have BKX := Aside0.mk hbox; clear hbox hb hge; have hzx0 : w5.cell? ⟨ge, 0, none⟩ = some (.int .i64 0) := (blk_cell BKX.out 0).trans rfl; have hzx1 : w5.cell? ⟨ge, 1, none⟩ = some (.int .i64 0) := (blk_cell BKX.out 1).trans rfl; have hzx2 : w5.cell? ⟨ge, 2, none⟩ = some (.int .i64 0) := (blk_cell BKX.out 2).trans rfl; have hzx3 : w5.cell? ⟨ge, 3, none⟩ = some (.int .i64 0) := (blk_cell BKX.out 3).trans rfl; have hzx4 : w5.cell? ⟨ge, 4, none⟩ = some (.int .i64 0) := (blk_cell BKX.out 4).trans rfl; have hzf0 := blk_frozen BKX.out 0; have hzf1 := blk_frozen BKX.out 1; have hzf2 := blk_frozen BKX.out 2; have hzf3 := blk_frozen BKX.out 3; have hzf4 := blk_frozen BKX.out 4) | (at_builtin; have hbw : Below wr.heap.size wr (((((w5.setCell ⟨ge, 0, none⟩ (.int .i64 x.f0)).setCell ⟨ge, 1, none⟩ (.int .i64 x.f1)).setCell ⟨ge, 2, none⟩ (.int .i64 x.f2.f0)).setCell ⟨ge, 3, none⟩ (.int .i64 x.f2.f1)).setCell ⟨ge, 4, none⟩ (.int .i64 x.f2.f2)) := below_set (below_set (below_set (below_set (below_set (HBX.out) GEX.out) GEX.out) GEX.out) GEX.out) GEX.out; (refine Kd.R_append k30 (w0 := (((((w5.setCell ⟨ge, 0, none⟩ (.int .i64 x.f0)).setCell ⟨ge, 1, none⟩ (.int .i64 x.f1)).setCell ⟨ge, 2, none⟩ (.int .i64 x.f2.f0)).setCell ⟨ge, 3, none⟩ (.int .i64 x.f2.f1)).setCell ⟨ge, 4, none⟩ (.int .i64 x.f2.f2))) (W := (((((w5.setCell ⟨ge, 0, none⟩ (.int .i64 x.f0)).setCell ⟨ge, 1, none⟩ (.int .i64 x.f1)).setCell ⟨ge, 2, none⟩ (.int .i64 x.f2.f0)).setCell ⟨ge, 3, none⟩ (.int .i64 x.f2.f1)).setCell ⟨ge, 4, none⟩ (.int .i64 x.f2.f2))) 0 rfl (.tmp 31) (.tmp 34) 27 30 (.agg #[.int .i64 0, .int .i64 0, .int .i64 0]) 24 rfl Try.underlying27 info30 rfl (by decide) (by omega) u5 ((ys.take i).map (·.f2)) x.f2 [.int .i64 x.f2.f0, .int .i64 x.f2.f1, .int .i64 x.f2.f2] (fun k => w.heap.size ≤ k) (fun _ => False) rfl (by first | (go_simp; done) | (go_simp; rfl)) (k30_mkM _ _ _ x.f2) (fun _ hk => hk.elim) (fun k hk => Nat.le_trans HB.out.size (Nat.le_trans hbw.size hk)) (Kd.R_below HV.out hbw) (Below.refl 0 _) (Nat.zero_le _) (by rw [List.length_map, List.length_take]; have := HI.out; have := HYL.out; omega) ?_); intro v6 w6 hR hb hg hat; have HV6 := Aside0.mk hR; have HG6 : Aside0 ((((((w5.setCell ⟨ge, 0, none⟩ (.int .i64 x.f0)).setCell ⟨ge, 1, none⟩ (.int .i64 x.f1)).setCell ⟨ge, 2, none⟩ (.int .i64 x.f2.f0)).setCell ⟨ge, 3, none⟩ (.int .i64 x.f2.f1)).setCell ⟨ge, 4, none⟩ (.int .i64 x.f2.f2)).grownBy w6 u5.ownBlock) := ⟨hg⟩; have HBW := Aside0.mk hbw; clear hR hb hg hat hbw))
          have hR6 : Kd.R k63 63 w6 0 (fun k => w.heap.size ≤ k) (.slice (some ⟨g, 0, none⟩) ys.length cap) ys := Kd.R_over' (Kd.R_below HR.out HBW.out) (fun k hk => by obtain ⟨cells, hc⟩ := Kd.R_typed HV.out k hk; exact ⟨cells, by rw [HBW.out.block k (Kd.R_lt HV.out k hk)]; exact hc⟩) (by intro q hq; simp [show k63.E = [] from rfl] at hq; omega) HG6.out
          have hB6 : Below w.heap.size w w6 := (below_step HB.out HBW.out).grown HG6.out (Nat.le_trans HB.out.size HBW.out.size) (fun k hk => HV.out.1 k hk)
          have hV6 : Kd.R k30 30 w6 0 (fun k => w.heap.size ≤ k) v6 ((ys.take (i + 1)).map (·.f2)) := by
            have h := HV6.out
            rw [List.take_add_one, List.getElem?_eq_getElem hil, List.map_append]
            rw [← HX.out, g63_get _ _ hil] at h
            exact h
          go_roundw
          case measure => simp [intOf]; omega
          case rel => exact ⟨i + 1, rfl, ⟨by omega⟩, ⟨hV6⟩, ⟨hR6⟩, ⟨hB6⟩⟩
        · obtain rfl : i = ys.length := by omega
          have hcb : decide (((ys.length : Nat) : Int) < (ys.length : Int)) = false := decide_eq_false (by omega)
          have hic : (((ys.length : Nat) : Int) < (ys.length : Int)) = False := eq_false (by omega)
          clear hi HI
          go_wp2
          go_ret
          refine ⟨_, rfl, ?_, HB.out⟩
          have h := HV.out
          rw [List.take_length, HYS.out] at h
          exact h
    · intro cc lv w4 hlk hnd hrg hg hs hen
      have HWC : Aside0 (Wc cc) := ⟨(HA.out.map.wf _ (look_some hlk)).1⟩
      have HDL : Aside0 (done.length < L.length) := ⟨by have := hrg.le; rw [List.length_append, List.length_singleton] at this; omega⟩
      obtain ⟨mm, since, seen, c00, hrr⟩ := HRG.out.obj
      have n0_ : Aside0 (Kd.R k63 63 w4 0 (fun k => w.heap.size ≤ k) u3 (done.map (entryOf L sn))) := ⟨Kd.R_mono (Kd.R_step (w1 := w4) (Kd.R_tight rfl HV.out) (fun k hk hlt => hg.block k hlt (fun e => by
        obtain ⟨cells, hc⟩ := Kd.R_typed HV.out k hk.symm
        injection e with e
        rw [e, hrr] at hc
        cases hc))) (fun k hk => HV.out.1 k hk.symm)⟩
      have n1_ : Aside0 (Below w.heap.size w w4) := ⟨HB.out.grown hg HB.out.size (fun k hk => by injection hk with hk; subst hk; exact HNR.out)⟩
      clear HV HB HRG hrr
      have HV := n0_
      have HB := n1_
      have HRG := Aside0.mk hrg
      clear n0_ n1_ hlk hnd hrg hg hs
      go_wp2_with (first | ((with_reducible refine gate_dst (N := 4) rfl ?_); refine box_event ?hg (N := 4) ?hd (cs := #[(.int .i64 0), (.int .i64 0), (.int .i64 0)]) (t := 30) ?hr ?_; (case hd => rfl); (case hg => rfl); (case hr => first | (go_simp; done) | (go_simp; rfl)); intro gc hgc w5 hbox hb; have HBX := Aside0.mk hb; have GEX : Aside0 (w4.heap.size ≤ gc) := ⟨by rw [hgc]; exact Nat.le_refl _⟩; have BKX := Aside0.mk hbox; clear hbox hb hgc; have hzx0 : w5.cell? ⟨gc, 0, none⟩ = some (.int .i64 0) := (blk_cell BKX.out 0).trans rfl; have hzx1 : w5.cell? ⟨gc, 1, none⟩ = some (.int .i64 0) := (blk_cell BKX.out 1).trans rfl; have hzx2 : w5.cell? ⟨gc, 2, none⟩ = some (.int .i64 0) := (blk_cell BKX.out 2).trans rfl; have hzf0 := blk_frozen BKX.out 0; have hzf1 := blk_frozen BKX.out 1; have hzf2 := blk_frozen BKX.out 2; clear hen) | (go_at_call 26; have hbw : Below w4.heap.size w4 (((w5.setCell ⟨gc, 0, none⟩ (.int .i64 cc.f0)).setCell ⟨gc, 1, none⟩ (.int .i64 cc.f1)).setCell ⟨gc, 2, none⟩ (.int .i64 cc.f2)) := below_set (below_set (below_set HBX.out GEX.out) GEX.out) GEX.out; (with_reducible refine (of_calls (((w5.setCell ⟨gc, 0, none⟩ (.int .i64 cc.f0)).setCell ⟨gc, 1, none⟩ (.int .i64 cc.f1)).setCell ⟨gc, 2, none⟩ (.int .i64 cc.f2)) F qb mb vs vh L sn hp (QuAt.below HA.out (below_step HB.out hbw)) cc HWC.out HSN.out).mono ?_); rintro e w7 ⟨rfl, hb⟩; have HB7 : Aside0 (Below w4.heap.size w4 w7) := ⟨below_step hbw hb⟩; clear hb hbw hzx0 hzx1 hzx2 hzf0 hzf1 hzf2) | (at_builtin; (refine Kd.R_append k63 (w0 := w7) (W := w7) 0 rfl (.tmp 17) (.tmp 21) 55 63 (.agg #[.int .i64 0, .int .i64 0, .int .i64 0, .int .i64 0, .int .i64 0]) 40 rfl Try.underlying55 info63 rfl (by decide) (by omega) u3 (done.map (entryOf L sn)) (entryOf L sn cc) (ec (entryOf L sn cc)) (fun k => w.heap.size ≤ k) (fun _ => False) rfl (by first | (go_simp; done) | (go_simp; rfl)) (k63_mkM _ _ _ _) (fun _ hk => hk.elim) (fun k hk => Nat.le_trans HB.out.size (Nat.le_trans HB7.out.size hk)) (Kd.R_below HV.out HB7.out) (Below.refl 0 _) (Nat.zero_le _) (by rw [List.length_map]; have := HDL.out; have := HLL.out; omega) ?_); intro v8 w8 hR hb hg hat; have HV8 := Aside0.mk hR; have HG8 : Aside0 (w7.grownBy w8 u3.ownBlock) := ⟨hg⟩; clear hR hb hg hat))
      have hrg8 : Rng w8 mb r L (done ++ [cc]) := Rng.row (Rng.below HRG.out HB7.out) (Kd.R_below HV.out HB7.out) HG8.out
      have hb8 : Below w.heap.size w w8 := (below_step HB.out HB7.out).grown HG8.out (Nat.le_trans HB.out.size HB7.out.size) (fun k hk => HV.out.1 k hk)
      have hv8 : Kd.R k63 63 w8 0 (fun k => w.heap.size ≤ k) v8 ((done ++ [cc]).map (entryOf L sn)) := by rw [List.map_append]; exact HV8.out
      go_roundg (L.length - (done ++ [cc]).length + 1)
      case measure => have := HGG.out; have := HDL.out; rw [List.length_append, List.length_singleton]; omega
      case rel => exact ⟨done ++ [cc], Nat.le_refl _, ⟨hv8⟩, ⟨hrg8⟩, ⟨hb8⟩⟩
end Go.Proofs.Ytgkbcgmcpbbneaa.Q
