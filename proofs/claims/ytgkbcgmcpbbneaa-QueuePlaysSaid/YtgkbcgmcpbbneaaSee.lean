/- The walks of slices.Clone at []api.Area and of queue.See. -/
import Derived.Test.YtgkbcgmcpbbneaaPut
import Derived.Test.YtgkbcgmcpbbneaaHeap
import Derived.Lib.SliceRun
namespace Go.Proofs.Ytgkbcgmcpbbneaa.Q
open Go Go.RowKit Go.Maps Go.Proofs.YtgkbcgmcpbbneaaW.PrintWords Go.Proofs.YtgkbcgmcpbbneaaW.PrintLast Go.Proofs.YtgkbcgmcpbbneaaW.PrintMore
attribute [local go_sem] max2_int min2_int max_two min_two max_three min_three max_four min_four
set_option maxRecDepth 100000
set_option linter.unusedVariables false
set_option linter.unusedSimpArgs false
theorem info46 : (Try.prog.info? 46).map (fun i => (i.zero, i.size, i.bytes)) = some (some (.agg #[.int .i64 0, .int .i64 0, .int .i64 0, .int .i64 0, .int .i64 0]), 5, 40) := by kernel_rfl
theorem wpList_range_at {ops : Array Oper} {rest : List Oper} {o : Oper} {a : Act} {Q : Exit → Act → World → Prop} {b : Nat} {L : List Wt} (w : World) (hg : o.guard = none) (m : Operand) (hop : o.op = Op.range 56 m)
    (hm : a.eval m = .map (some b)) (h : MapAt w b L) (hK : ∀ w', Rng w' b w.heap.size L [] → w.grownBy w' none → w'.heap.size = w.heap.size + 1 → wpList Try.prog ops Q rest (a.put o.dst (.pointer (some ⟨w.heap.size, 0, none⟩))) w') : wpList Try.prog ops Q (o :: rest) a w := by
  refine wpList_plain hg fun K' hK' => ?_
  obtain ⟨w', hrun, r1, r2, r3⟩ := h.range
  unfold Oper.wp
  simp [execOp, hop, hm, hrun, Result.andThen]
  exact hK' _ _ (hK w' r1 r2 r3)
theorem wpList_next_at {ops : Array Oper} {rest : List Oper} {o : Oper} {a : Act} {Q : Exit → Act → World → Prop} {b r : Nat} {L : List Wt} {done : List S30} (w : World) (hg : o.guard = none) (it : Operand) (hop : o.op = Op.next it false)
    (hit : a.eval it = .pointer (some ⟨r, 0, none⟩)) (h : Rng w b r L done) (hDone : done.Perm (L.map (·.1)) → wpList Try.prog ops Q rest (a.put o.dst (.tuple #[.bool false])) w)
    (hMore : ∀ (c : S30) (n : Int) (w' : World), look L c = some n → c ∉ done → Rng w' b r L (done ++ [c]) → w.grownBy w' (some r) → w'.heap.size = w.heap.size →
      (Instr.entry (.pointer (some ⟨r, 0, none⟩))).run Try.prog w' = .ok (.tuple #[.agg #[.int .i64 c.f0, .int .i64 c.f1, .int .i64 c.f2], .int .i64 n]) w' → wpList Try.prog ops Q rest (a.put o.dst (.tuple #[.bool true, .agg #[.int .i64 c.f0, .int .i64 c.f1, .int .i64 c.f2], .int .i64 n])) w') :
    wpList Try.prog ops Q (o :: rest) a w := by
  refine wpList_plain hg fun K' hK' => ?_
  unfold Oper.wp
  rcases h.next o.type with ⟨hp, hrun⟩ | ⟨c, n, w', h1, h2, hrun, h3, h4, h5, h6⟩
  · simp [execOp, hop, hit, hrun, Result.andThen]
    exact hK' _ _ (hDone hp)
  · simp [execOp, hop, hit, hrun, Result.andThen]
    exact hK' _ _ (hMore c n w' h1 h2 h3 h4 h5 h6)
theorem R_empty (w : World) (F : Nat → Prop) (hF : F w.heap.size) : Kd.R k46 46 (w.alloc (.cells #[] 46)) 0 F (.slice (some ⟨w.heap.size, 0, none⟩) 0 0) [] :=
  ⟨fun k hk => by have : w.heap.size = k := by simpa [Value.ownBlock] using hk
                  subst this; exact hF, [], ⟨rfl, .inr ⟨w.heap.size, 0, #[], rfl, Nat.zero_le _, blk_new w _, Nat.le_refl _, Nat.zero_le _, rfl, rfl⟩⟩, Reps.none _ _⟩
set_option maxHeartbeats 8000000 in
theorem clone_calls (A : Option Addr) (n c : Nat) (xs : List S46) (w : World) (hC : Kd.C k46 w A n xs) (hl : n ≤ 1000000) :
    Calls Try.prog 32 #[.slice A n c] w fun e w' => ∃ v, e = .returned v ∧ Kd.R k46 46 w' 0 (fun k => w.heap.size ≤ k) v xs ∧ Below w.heap.size w w' := by
  have HC := Aside0.mk hC
  have HLN := Aside0.mk hl
  clear hC hl
  have hu39 := Try.underlying39
  have heq := fun (a : Option Addr) (n c : Nat) (w : World) => Lib.run_eql_slice_nil (P := Try.prog) w 39 46 a n c 0 0 Try.underlying39
  cases A with
  | none =>
    have hn : n = 0 := by
      rcases Nat.eq_zero_or_pos n with h | h
      · exact h
      · obtain ⟨ad, h2, _⟩ := HC.out.2.2 h
        cases h2
    have hx : xs = [] := List.eq_nil_of_length_eq_zero (by rw [HC.out.1]; exact hn)
    subst hx
    clear hn
    go_enter Try.func32, Try.ntmps32
    go_wp2
    go_ret
    exact ⟨_, rfl, Kd.R_nil _ _ _ _ _, Below.refl _ _⟩
  | some ad =>
    go_enter Try.func32, Try.ntmps32
    go_wp2_with (at_builtin; (refine Kd.R_append_rows k46 (Rr := k46.K w) (w0 := w) (W := w.alloc (.cells #[] 46)) 0 rfl (.tmp 5) (.tmp 6) 39 46 (.agg #[.int .i64 0, .int .i64 0, .int .i64 0, .int .i64 0, .int .i64 0]) 40 rfl Try.underlying39 info46 rfl (by decide) (by omega) (.slice (some ⟨w.heap.size, 0, none⟩) 0 0) [] xs (some ad) n c (fun k => w.heap.size ≤ k) (fun _ => False) rfl rfl (R_empty w _ (Nat.le_refl _)) (Kd.C_alloc HC.out _) ?hkm (fun _ hk => hk.elim) (fun k hk => ?hfr) ((Below.refl 0 w).alloc (Nat.zero_le _) _) (Nat.zero_le _) (by have := HLN.out; simp; omega) ?_); (case hkm => intro x cs hx; obtain rfl := k46_open hx; exact k46_mkM _ _ _ x); (case hfr => exact Nat.le_trans (Nat.le_of_lt (by simp)) hk); intro v1 w1 hR hb hg hat; have HR := Aside0.mk hR; have HG := Aside0.mk hg; clear hR hb hg hat)
    go_ret
    refine ⟨_, rfl, HR.out, ?_⟩
    exact (below_alloc (Below.refl _ _) _).grown HG.out (by simp) (fun k hk => by simp [Value.ownBlock] at hk; omega)
def seeHeap (L : List Wt) (sn : List S46) (done : List S30) : List S63 := done.foldl (fun l c => pushH l (entryOf L sn c)) []
theorem seeHeap_snoc (L : List Wt) (sn : List S46) (done : List S30) (c : S30) : seeHeap L sn (done ++ [c]) = pushH (seeHeap L sn done) (entryOf L sn c) := by simp [seeHeap, List.foldl_append]
theorem seeHeap_length (L : List Wt) (sn : List S46) (done : List S30) : (seeHeap L sn done).length = done.length := by
  suffices h : ∀ (d : List S30) (l : List S63), (d.foldl (fun l c => pushH l (entryOf L sn c)) l).length = l.length + d.length by
    have := h done []
    simpa [seeHeap] using this
  intro d
  induction d with
  | nil => intro l; rfl
  | cons c d ih =>
    intro l
    rw [List.foldl_cons, ih, pushH_length, List.length_cons]
    omega
section
variable {w w' : World} {F : Nat → Prop} {qb mb r : Nat} {vs vh : Value} {L : List Wt} {sn : List S46} {hp : List S63} {done : List S30}
theorem QuAt.iter (h : QuAt w F qb mb vs vh L sn hp) (hr : Rng w mb r L done) (hg : w.grownBy w' (some r)) : QuAt w' F qb mb vs vh L sn hp := by
  obtain ⟨m, since, seen, c0, hrr⟩ := hr.obj
  have h1 := Kd.R_step (w1 := w') (Kd.R_tight rfl h.seen) (fun k hk hlt => hg.block k hlt (fun e => by
    obtain ⟨cells, hc⟩ := Kd.R_typed h.seen k hk.symm
    injection e with e
    rw [e, hrr] at hc
    cases hc))
  have h2 := Kd.R_step (w1 := w') (Kd.R_tight rfl h.heap) (fun k hk hlt => hg.block k hlt (fun e => by
    obtain ⟨cells, hc⟩ := Kd.R_typed h.heap k hk.symm
    injection e with e
    rw [e, hrr] at hc
    cases hc))
  exact ⟨blk_grown h.blk hg (fun e => by injection e with e; have := h.blk; rw [e, hrr] at this; cases this), h.map.move (hg.block mb h.map.lt (fun e => hr.ne (Option.some.inj e).symm)), Kd.R_mono h1 (fun k hk => h.seen.1 k hk.symm), Kd.R_mono h2 (fun k hk => h.heap.1 k hk.symm), h.fq, h.fm⟩
theorem Rng.below (h : Rng w mb r L done) (hb : Below w.heap.size w w') : Rng w' mb r L done := h.move (hb.block mb h.mapAt.lt) (hb.block r h.lt)
theorem Rng.afterHeap (h : Rng w mb r L done) (hq : QuAt w F qb mb vs vh L sn hp) (hk : Kp w w' (fun k => k = qb ∨ some k = vh.ownBlock)) : Rng w' mb r L done := by
  obtain ⟨m, since, seen, c0, hrr⟩ := h.obj
  refine h.move (hk.block mb h.mapAt.lt (fun e => ?_)) (hk.block r h.lt (fun e => ?_))
  · rcases e with e | e
    · exact hq.ne e
    · exact R_ne_map hq.heap hq.map e.symm
  · rcases e with e | e
    · have := hq.blk; rw [← e, hrr] at this; cases this
    · obtain ⟨cells, hc⟩ := Kd.R_typed hq.heap r e.symm
      rw [hrr] at hc; cases hc
theorem QuAt.heapNew {n : Nat} (h : QuAt w (fun k => k = qb ∨ k = mb ∨ n ≤ k) qb mb vs vh L sn hp) {k : Nat} (hk : some k = vh.ownBlock) : n ≤ k := by
  rcases h.heap.1 k hk.symm with e | e | e
  · exact absurd hk (by rw [e]; exact Kd.R_ne h.heap h.blk (by decide))
  · exact absurd hk.symm (by rw [e]; exact R_ne_map h.heap h.map)
  · exact e
end
def SeePost (w : World) (qb mb : Nat) (L : List Wt) (xs : List S46) (e : Ending) (w' : World) : Prop :=
  e = .returned (.tuple #[]) ∧ ∃ vs' vh' done, done.Perm (L.map (·.1)) ∧ QuAt w' (fun k => k = qb ∨ k = mb ∨ w.heap.size ≤ k) qb mb vs' vh' L xs (seeHeap L xs done) ∧ Kp w w' (fun k => k = qb)

set_option maxHeartbeats 8000000 in
theorem see_calls (w : World) (F : Nat → Prop) (qb mb : Nat) (vs vh : Value) (L : List Wt) (sn : List S46) (hp : List S63) (hQ : QuAt w F qb mb vs vh L sn hp) (A : Option Addr) (n c : Nat) (xs : List S46) (hC : Kd.C k46 w A n xs) (hn : n ≤ 1000000) (hL : L.length ≤ 1000000) : Calls Try.prog 20 #[.pointer (some ⟨qb, 0, none⟩), .slice A n c] w (SeePost w qb mb L xs) := by
  have hu61 := Try.underlying61
  have hu59 := Try.underlying59
  have hu30 := Try.underlying30
  have HA := Aside0.mk hQ
  have HC := Aside0.mk hC
  have HLN := Aside0.mk hn
  have HLX : Aside0 (xs.length ≤ 1000000) := ⟨by rw [hC.1]; exact hn⟩
  have HLL := Aside0.mk hL
  have HNE : Aside0 (mb ≠ qb) := ⟨hQ.ne⟩
  clear hQ hC hn hL
  go_enter Try.func20, Try.ntmps20
  go_wp2_with (first | (go_at_call 32; (with_reducible refine (clone_calls A n c xs _ HC.out HLN.out).mono ?_); rintro e w1 ⟨v, rfl, hR, hb⟩; obtain ⟨B, bc, ev⟩ := Kd.R_slice hR; subst ev; have HR := Aside0.mk hR; have HB := Aside0.mk hb; clear hR; have HBQ : Aside0 (w1.heap[qb]? = some (.cells (qcs mb vs vh) 61 (0, 0))) := ⟨(hb.block qb (blk_lt HA.out.blk)).trans HA.out.blk⟩; have HM1 : Aside0 (MapAt w1 mb L) := ⟨MapAt.below HA.out.map hb⟩; clear hb; have hc0 : w1.cell? ⟨qb, 0, none⟩ = some (.map (some mb)) := (blk_cell HBQ.out 0).trans rfl; have hf0 := blk_frozen HBQ.out 0; have hc1 : w1.cell? ⟨qb, 1, none⟩ = some vs := (blk_cell HBQ.out 1).trans rfl; have hf1 := blk_frozen HBQ.out 1; have hc2 : w1.cell? ⟨qb, 2, none⟩ = some vh := (blk_cell HBQ.out 2).trans rfl; have hf2 := blk_frozen HBQ.out 2) | (at_range; refine wpList_range_at _ rfl _ rfl rfl (MapAt.move HM1.out ((Below.heap_setCell _ _ _ mb HNE.out).trans (Below.heap_setCell _ _ _ mb HNE.out))) ?_; intro w3 hrg hg hs; have HRG := Aside0.mk hrg; have HG := Aside0.mk hg; clear hrg hg hs hc0 hc1 hc2 hf0 hf1 hf2))
  go_frame
  obtain ⟨r, hr⟩ : ∃ r, r = ((w1.setCell ⟨qb, 1, none⟩ (.slice B xs.length bc)).setCell ⟨qb, 2, none⟩ (.slice none 0 0)).heap.size := ⟨_, rfl⟩
  rw [← hr] at HRG ⊢
  have HRR := Aside0.mk hr
  clear hr
  have hq1 : ((w1.setCell ⟨qb, 1, none⟩ (.slice B xs.length bc)).setCell ⟨qb, 2, none⟩ (.slice none 0 0)).heap[qb]? = some (.cells (qcs mb (.slice B xs.length bc) (.slice none 0 0)) 61 (0, 0)) := blk_put (cs := qcs mb (.slice B xs.length bc) vh) (blk_put (cs := qcs mb vs vh) HBQ.out 1 _ rfl) 2 _ rfl
  have hr1 := Kd.R_set (Kd.R_set HR.out (cells := qcs mb vs vh) (t := 61) HBQ.out (by intro q hq; simp [show k46.E = [] from rfl] at hq; omega) 1 (.slice B xs.length bc)) (cells := qcs mb (.slice B xs.length bc) vh) (t := 61) (blk_put (cs := qcs mb vs vh) HBQ.out 1 _ rfl) (by intro q hq; simp [show k46.E = [] from rfl] at hq; omega) 2 (.slice none 0 0)
  have hk1 : Kp w ((w1.setCell ⟨qb, 1, none⟩ (.slice B xs.length bc)).setCell ⟨qb, 2, none⟩ (.slice none 0 0)) (fun k => k = qb) := Kp.setCell (Kp.setCell (Kp.of_below HB.out (fun k => k = qb)) (.inl rfl) _) (.inl rfl) _
  have HNR : Aside0 (w.heap.size ≤ r) := ⟨by rw [HRR.out]; exact hk1.size⟩
  generalize ((w1.setCell ⟨qb, 1, none⟩ (.slice B xs.length bc)).setCell ⟨qb, 2, none⟩ (.slice none 0 0)) = w2 at HG HRR hq1 hr1 hk1
  have HA3 : Aside0 (QuAt w3 (fun k => k = qb ∨ k = mb ∨ w.heap.size ≤ k) qb mb (.slice B xs.length bc) (.slice none 0 0) L xs (seeHeap L xs [])) := ⟨⟨blk_grown hq1 HG.out (by simp), HRG.out.mapAt, Kd.R_mono (Kd.R_grown hr1 HG.out (fun k _ e => by cases e)) (fun k hk => .inr (.inr hk)), Kd.R_nil _ _ _ _ _, .inl rfl, .inr (.inl rfl)⟩⟩
  have HK3 : Aside0 (Kp w w3 (fun k => k = qb)) := ⟨hk1.then_ (Kp.of_grown (S := fun _ => False) HG.out (fun k hk => by cases hk)) (fun k hk => hk.elim)⟩
  clear hq1 hr1 hk1 HG HRR HR HB HBQ HM1 HA HC
  clear w2
  go_loopg [4] (L.length + 1) (fun gg v4 wr => ∃ (done : List S30) (vh2 : Value), L.length - done.length + 1 ≤ gg ∧ Aside0 (QuAt wr (fun k => k = qb ∨ k = mb ∨ w.heap.size ≤ k) qb mb (.slice B xs.length bc) vh2 L xs (seeHeap L xs done)) ∧ Aside0 (Rng wr mb r L done) ∧ Aside0 (Kp w wr (fun k => k = qb)))
  case atStart => exact ⟨[], .slice none 0 0, by simp, HA3, HRG, HK3⟩
  case round =>
    clear HA3 HRG HK3
    obtain ⟨done, vh2, hgg, HA, HRG, HK⟩ := hrel
    have HGG := Aside0.mk hgg
    clear hgg
    go_wp2_with (at_next; refine wpList_next_at _ rfl _ rfl rfl HRG.out ?_ ?_)
    · intro hperm
      have HP := Aside0.mk hperm
      clear hperm
      go_wp2
      go_end0
      exact ⟨rfl, _, _, done, HP.out, HA.out, HK.out⟩
    · intro cc lv w4 hlk hnd hrg hg hs hen
      have HLK := Aside0.mk hlk
      have n0_ : Aside0 (QuAt w4 (fun k => k = qb ∨ k = mb ∨ w.heap.size ≤ k) qb mb (.slice B xs.length bc) vh2 L xs (seeHeap L xs done)) := ⟨QuAt.iter HA.out HRG.out hg⟩
      have n1_ : Aside0 (Kp w w4 (fun k => k = qb)) := ⟨HK.out.then_ (Kp.of_grown (S := fun k => k = r) hg (fun k hk => (Option.some.inj hk).symm)) (fun k hk => .inr (by subst hk; exact HNR.out))⟩
      have HDL : Aside0 (done.length < L.length) := ⟨by have := hrg.le; rw [List.length_append, List.length_singleton] at this; omega⟩
      clear HA HRG HK
      have HA := n0_
      have HK := n1_
      have HRG := Aside0.mk hrg
      clear n0_ n1_ hlk hnd hrg hg hs
      have HWC : Aside0 (Wc cc) := ⟨(HA.out.map.wf _ (look_some HLK.out)).1⟩
      go_wp2_with ((with_reducible refine gate_dst (N := 4) rfl ?_); refine box_event ?hg (N := 4) ?hd (cs := #[(.int .i64 0), (.int .i64 0), (.int .i64 0)]) (t := 30) ?hr ?_; (case hd => rfl); (case hg => rfl); (case hr => first | (go_simp; done) | (go_simp; rfl)); intro gc hgc w5 hbox hb; have HBX := Aside0.mk hb; have GEX : Aside0 (w4.heap.size ≤ gc) := ⟨by rw [hgc]; exact Nat.le_refl _⟩; have BKX := Aside0.mk hbox; clear hbox hb hgc; have hzx0 : w5.cell? ⟨gc, 0, none⟩ = some (.int .i64 0) := (blk_cell BKX.out 0).trans rfl; have hzx1 : w5.cell? ⟨gc, 1, none⟩ = some (.int .i64 0) := (blk_cell BKX.out 1).trans rfl; have hzx2 : w5.cell? ⟨gc, 2, none⟩ = some (.int .i64 0) := (blk_cell BKX.out 2).trans rfl; have hzf0 := blk_frozen BKX.out 0; have hzf1 := blk_frozen BKX.out 1; have hzf2 := blk_frozen BKX.out 2; clear hen)
      clear hzx0 hzx1 hzx2 hzf0 hzf1 hzf2
      have hbw : Below w4.heap.size w4 (((w5.setCell ⟨gc, 0, none⟩ (.int .i64 cc.f0)).setCell ⟨gc, 1, none⟩ (.int .i64 cc.f1)).setCell ⟨gc, 2, none⟩ (.int .i64 cc.f2)) := below_set (below_set (below_set HBX.out GEX.out) GEX.out) GEX.out
      have n0_ : Aside0 (Kp w (((w5.setCell ⟨gc, 0, none⟩ (.int .i64 cc.f0)).setCell ⟨gc, 1, none⟩ (.int .i64 cc.f1)).setCell ⟨gc, 2, none⟩ (.int .i64 cc.f2)) (fun k => k = qb)) := ⟨(Kp.then_ HK.out (Kp.of_below hbw (fun _ => False)) (fun _ h => h.elim))⟩
      have n1_ : Aside0 (QuAt (((w5.setCell ⟨gc, 0, none⟩ (.int .i64 cc.f0)).setCell ⟨gc, 1, none⟩ (.int .i64 cc.f1)).setCell ⟨gc, 2, none⟩ (.int .i64 cc.f2)) (fun k => k = qb ∨ k = mb ∨ w.heap.size ≤ k) qb mb (.slice B xs.length bc) vh2 L xs (seeHeap L xs done)) := ⟨(QuAt.below HA.out hbw)⟩
      have n2_ : Aside0 (Rng (((w5.setCell ⟨gc, 0, none⟩ (.int .i64 cc.f0)).setCell ⟨gc, 1, none⟩ (.int .i64 cc.f1)).setCell ⟨gc, 2, none⟩ (.int .i64 cc.f2)) mb r L (done ++ [cc])) := ⟨(Rng.below HRG.out hbw)⟩
      clear HK HA HRG
      have HK := n0_
      have HA := n1_
      have HRG := n2_
      clear n0_ n1_ n2_
      have BKgc : Aside0 ((((w5.setCell ⟨gc, 0, none⟩ (.int .i64 cc.f0)).setCell ⟨gc, 1, none⟩ (.int .i64 cc.f1)).setCell ⟨gc, 2, none⟩ (.int .i64 cc.f2)).heap[gc]? = some (.cells #[(.int .i64 cc.f0), (.int .i64 cc.f1), (.int .i64 cc.f2)] 30 (0, 0))) := ⟨by refine blk_put (cs := #[(.int .i64 cc.f0), (.int .i64 cc.f1), (.int .i64 0)]) ?_ 2 _ rfl; refine blk_put (cs := #[(.int .i64 cc.f0), (.int .i64 0), (.int .i64 0)]) ?_ 1 _ rfl; refine blk_put (cs := #[(.int .i64 0), (.int .i64 0), (.int .i64 0)]) ?_ 0 _ rfl; exact BKX.out⟩
      clear hbw BKX HBX GEX
      generalize (((w5.setCell ⟨gc, 0, none⟩ (.int .i64 cc.f0)).setCell ⟨gc, 1, none⟩ (.int .i64 cc.f1)).setCell ⟨gc, 2, none⟩ (.int .i64 cc.f2)) = w6 at HK HA HRG BKgc ⊢
      refine start_ (n := 7) (S := fun w' => w'.cell? ⟨gc, 0, none⟩ = some ((.int .i64 cc.f0)) ∧ w'.cell? ⟨gc, 1, none⟩ = some ((.int .i64 cc.f1)) ∧ w'.cell? ⟨gc, 2, none⟩ = some ((.int .i64 cc.f2))) (ds := [5, 6]) #[false, false, false, false, false, false, false] (by kernel_rfl) rfl rfl ⟨(blk_cell BKgc.out 0).trans rfl, (blk_cell BKgc.out 1).trans rfl, (blk_cell BKgc.out 2).trans rfl⟩ (fun hHeld => ?_)
      refine pure_ (i := 0) (N := some 23) (v := ?_) (a' := ?_) #[true, false, false, false, false, false, false] rfl rfl (by kernel_rfl) (fun _ _ _ h => h) (Or.inl ⟨by rfl, ?_⟩) ?_ ?_
      rotate_left
      · intro w'
        go_simp
        with_reducible rfl
      rotate_left
      · simp only [Act.put, List.setIfInBounds_toArray, List.set_cons_zero, List.set_cons_succ, i64_w, i32_w]
        rfl
      refine pure_ (i := 1) (N := some 24) (v := ?_) (a' := ?_) #[true, true, false, false, false, false, false] rfl rfl (by kernel_rfl) (fun _ _ _ h => h) (Or.inl ⟨by rfl, ?_⟩) ?_ ?_
      rotate_left
      · intro w'
        go_simp
        with_reducible rfl
      rotate_left
      · simp only [Act.put, List.setIfInBounds_toArray, List.set_cons_zero, List.set_cons_succ, i64_w, i32_w]
        rfl
      refine pure_ (i := 2) (N := some 25) (v := ?_) (a' := ?_) #[true, true, true, false, false, false, false] rfl rfl (by kernel_rfl) (fun _ _ _ h => h) (Or.inl ⟨by rfl, ?_⟩) ?_ ?_
      rotate_left
      · intro w'
        go_simp
        with_reducible rfl
      rotate_left
      · simp only [Act.put, List.setIfInBounds_toArray, List.set_cons_zero, List.set_cons_succ, i64_w, i32_w]
        rfl
      refine pure_ (i := 3) (N := some 26) (v := ?_) (a' := ?_) #[true, true, true, true, false, false, false] rfl rfl (by kernel_rfl) (fun _ _ _ h => h) (Or.inl ⟨by rfl, ?_⟩) ?_ ?_
      rotate_left
      · intro w'
        go_simp
        with_reducible rfl
      rotate_left
      · simp only [Act.put, List.setIfInBounds_toArray, List.set_cons_zero, List.set_cons_succ, i64_w, i32_w]
        rfl
      refine take_ (i := 4) (N := some 27) (v := ?_) (a' := ?_) #[true, true, true, true, true, false, false] rfl rfl (by kernel_rfl) (fun _ _ _ h => h) (Or.inl ⟨by rfl, ?_⟩) hHeld ?_ ?_
      rotate_left
      · rintro w' ⟨s0, s1, s2⟩
        go_simp
        with_reducible rfl
      rotate_left
      · simp only [Act.put, List.setIfInBounds_toArray, List.set_cons_zero, List.set_cons_succ, i64_w, i32_w]
        rfl
      refine last_ (i := 5) (N := some 28) #[true, true, true, true, true, true, false] rfl rfl (by kernel_rfl) (by decide) (fun K hK => ?_)
      refine goes_ Try.func26 (by kernel_rfl) rfl #[.pointer (some ⟨qb, 0, none⟩), .agg #[.int .i64 cc.f0, .int .i64 cc.f1, .int .i64 cc.f2]] (by rfl) rfl rfl (by simp only [List.map_toArray, List.map_cons, List.map_nil]; rfl) ?_
      with_reducible refine (of_calls _ (fun k => k = qb ∨ k = mb ∨ w.heap.size ≤ k) qb mb (.slice B xs.length bc) vh2 L xs (seeHeap L xs done) HA.out.drew cc HWC.out HLX.out).mono ?_
      rintro e w7 ⟨rfl, hb⟩
      refine ⟨_, rfl, ?_⟩
      have HB7 := Aside0.mk hb
      clear hb
      refine hK.out _ _ ?_
      clear hK K
      refine norm_ (a' := ?_) ?_ ?_
      rotate_left
      · show Act.put _ (some 28) _ = _
        simp only [Act.put, List.setIfInBounds_toArray, List.set_cons_zero, List.set_cons_succ, i64_w, i32_w]
        rfl
      refine last_ (i := 6) (N := some 29) #[true, true, true, true, true, true, true] rfl rfl (by kernel_rfl) (by decide) (fun K hK => ?_)
      refine goes_ Try.func30 (by kernel_rfl) rfl #[.pointer (some ⟨qb, 2, none⟩), .agg #[.int .i64 (entryOf L xs cc).f0, .int .i64 (entryOf L xs cc).f1, .int .i64 cc.f0, .int .i64 cc.f1, .int .i64 cc.f2]] (by rfl) rfl rfl (by simp only [List.map_toArray, List.map_cons, List.map_nil]; rfl) ?_
      with_reducible refine (push_ent w7 (fun k => k = qb ∨ k = mb ∨ w.heap.size ≤ k) qb mb (.slice B xs.length bc) vh2 (seeHeap L xs done) L xs cc (QuAt.qb (QuAt.below HA.out.drew HB7.out)) (QuAt.below HA.out.drew HB7.out).heap (by rw [seeHeap_length]; have := HDL.out; have := HLL.out; omega)).mono ?_
      rintro e w8 ⟨rfl, vh3, hq8, hr8, hk8⟩
      refine ⟨_, rfl, ?_⟩
      have HQ8 := Aside0.mk hq8
      have HR8 := Aside0.mk hr8
      have HK8 := Aside0.mk hk8
      clear hq8 hr8 hk8
      refine hK.out _ _ ?_
      clear hK K
      refine norm_ (a' := ?_) ?_ ?_
      rotate_left
      · show Act.put _ (some 29) _ = _
        simp only [Act.put, List.setIfInBounds_toArray, List.set_cons_zero, List.set_cons_succ, i64_w, i32_w]
        rfl
      refine done_ (by kernel_rfl) ?_
      have hA7 := QuAt.below HA.out.drew HB7.out
      have hk7 : Kp w w6.drew (fun k => k = qb) := Kp.drew HK.out
      have hk9 := hk7.then_ (Kp.of_below HB7.out (fun _ => False)) (fun k hk => hk.elim)
      have hrd : Rng w6.drew mb r L (done ++ [cc]) := HRG.out
      have n0_ : Aside0 (QuAt w8 (fun k => k = qb ∨ k = mb ∨ w.heap.size ≤ k) qb mb (.slice B xs.length bc) vh3 L xs (seeHeap L xs (done ++ [cc]))) := ⟨QuAt.afterHeap hA7 HQ8.out (by rw [seeHeap_snoc]; exact Kd.R_mono HR8.out (fun k hk => hk.elim id (fun e => .inr (.inr (Nat.le_trans hk9.size e))))) HK8.out (fun k hk => hk)⟩
      have n1_ : Aside0 (Rng w8 mb r L (done ++ [cc])) := ⟨Rng.afterHeap (hrd.below HB7.out) hA7 HK8.out⟩
      have n2_ : Aside0 (Kp w w8 (fun k => k = qb)) := ⟨hk9.then_ HK8.out (fun k hk => hk.imp id (fun e => hA7.heapNew e))⟩
      clear hA7 hk7 hk9 hrd HA HK HRG HQ8 HR8 HK8 HB7 BKgc
      go_wp2
      go_roundg (L.length - (done ++ [cc]).length + 1)
      case measure => have := HGG.out; have := HDL.out; rw [List.length_append, List.length_singleton]; omega
      case rel => exact ⟨done ++ [cc], vh3, Nat.le_refl _, n0_, n1_, n2_⟩
end Go.Proofs.Ytgkbcgmcpbbneaa.Q
