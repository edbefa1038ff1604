/- The walk of whittlelaw4.LexFresh, by hand: the printer refuses a row that may be another one. -/
import Derived.Test.YtceldhkfidmfkaaDoorLx13
import Derived.Test.YtceldhkfidmfkaaDoorLx15
import Derived.Test.YtceldhkfidmfkaaDoorLx5
import Derived.Test.YtceldhkfidmfkaaDoorKeep
namespace Go.Proofs.YtceldhkfidmfkaaDoor.L
open Go Go.RowKit Go.Proofs.YtceldhkfidmfkaaDoorW.PrintWords Go.Proofs.YtceldhkfidmfkaaDoorW.PrintLast Go.Proofs.YtceldhkfidmfkaaDoorW.PrintMore
attribute [local go_sem] max2_int min2_int max_two min_two max_three min_three max_four min_four
set_option linter.unusedVariables false
set_option linter.unusedSimpArgs false
/-- The first i elements marked, the others as they were. -/
def mk (N : Int) (l : List S31) (i : Nat) : List S31 := (List.range i).map (fun j : Nat => (⟨0, ⟨#[]⟩, N + (j : Int)⟩ : S31)) ++ l.drop i
theorem mk_zero (N : Int) (l : List S31) : mk N l 0 = l := by simp [mk]
theorem mk_len (N : Int) (l : List S31) (i : Nat) (h : i ≤ l.length) : (mk N l i).length = l.length := by simp [mk]; omega
theorem mk_set (N : Int) (l : List S31) (i : Nat) (h : i < l.length) : (mk N l i).set i ⟨0, ⟨#[]⟩, N + (i : Int)⟩ = mk N l (i + 1) := by
  unfold mk
  rw [List.range_succ, List.map_append, List.set_append_right _ _ (by simp)]
  simp only [List.length_map, List.length_range, Nat.sub_self]
  have hd := List.drop_eq_getElem_cons h
  rw [hd, List.set_cons_zero]
  simp
theorem rd_mk (N : Int) (l xs : List S31) (i : Nat) (h : i < l.length) : rd_T31 (mk N l l.length ++ xs) (i : Int) = ⟨0, ⟨#[]⟩, N + (i : Int)⟩ := by
  have hl := mk_len N l l.length (Nat.le_refl _)
  unfold rd_T31
  rw [show ((i : Int)).toNat = i by omega, List.getD_eq_getElem?_getD, List.getElem?_append_left (by omega)]
  unfold mk
  rw [List.getElem?_append_left (by simp; omega), List.getElem?_map, List.getElem?_range h]
  rfl
theorem rd_rep (N : Int) (l : List S31) (x : S31) (i : Nat) (h1 : l.length ≤ i) (h2 : i < l.length + 40) : rd_T31 (mk N l l.length ++ List.replicate 40 x) (i : Int) = x := by
  have hl := mk_len N l l.length (Nat.le_refl _)
  unfold rd_T31
  rw [show ((i : Int)).toNat = i by omega, List.getD_eq_getElem?_getD, List.getElem?_append_right (by omega), List.getElem?_replicate, if_pos (by omega)]
  rfl
theorem own_form {w : World} {base e n c : Nat} {ok : Nat → Prop} {A : Option Addr} {xs : List S31} (h : Kd.R k31 e w base ok (.slice A n c) xs) (hn : 0 < n) : ∃ g, A = some ⟨g, 0, none⟩ ∧ ok g := by
  have hl := (Kd.R_reads' h).1
  obtain ⟨inner, ho⟩ := Kd.R_own h
  rcases ho.2 with ⟨hv, hz⟩ | ⟨g, cap, cur, hv, _⟩
  · omega
  · injection hv with h1 h2 h3
    exact ⟨g, h1, h.1 g (by rw [h1]; rfl)⟩
def Apt (v u : Value) : Prop := ∀ k, v.ownBlock = some k → u.ownBlock ≠ some k
theorem Apt.symm {v u : Value} (h : Apt v u) : Apt u v := fun k hk hv => h k hv hk
theorem mvR {w w1 : World} {base : Nat} {ok : Nat → Prop} {v : Value} {xs : List S31} {row : Option Nat} (h : Kd.R k31 31 w base ok v xs) (hg : w.grownBy w1 row) (hne : ∀ k, v.ownBlock = some k → row ≠ some k) : Kd.R k31 31 w1 base (fun _ => True) v xs :=
  Kd.R_reok rfl (Kd.R_grown (Kd.R_tight rfl h) hg (fun k hk he => hne k hk.symm he.symm)) (fun _ _ => trivial)
theorem F_zero (w : World) (ok : Nat → Prop) (A : Option Addr) : Kd.F k31 w ok A 0 [] := fun W' _ => ⟨rfl, Nat.zero_le _, fun h => absurd h (Nat.lt_irrefl 0)⟩
/-- Behind an append to a row that may be l's own: l reads as it did. -/
theorem F_ext {w w1 : World} {base c n : Nat} {ok : Nat → Prop} {A : Option Addr} {L xs' : List S31} {vg v1 : Value} (hF : Kd.F k31 w (fun k => some k = (Value.slice A n c).ownBlock) A n L)
    (hform : 0 < n → ∃ b, A = some ⟨b, 0, none⟩) (hR1 : Kd.R k31 31 w1 base ok v1 xs') (hpre : xs'.take n = L) (hle : n ≤ xs'.length)
    (hg : w.grownBy w1 vg.ownBlock) (hat : v1.ownBlock = vg.ownBlock ∨ ((∃ b, v1.ownBlock = some b ∧ w.heap.size ≤ b) ∧ w.grownBy w1 none)) : Kd.F k31 w1 (fun k => some k = (Value.slice A n c).ownBlock) A n L := by
  by_cases h0 : n = 0
  · subst h0
    have : L = [] := List.eq_nil_of_length_eq_zero (Kd.F_len hF)
    subst this
    exact F_zero _ _ _
  · obtain ⟨b, rfl⟩ := hform (by omega)
    rcases hat with hat | ⟨_, hgn⟩
    · by_cases hb : vg.ownBlock = some b
      · obtain ⟨A', c', rfl⟩ := Kd.R_slice hR1
        obtain ⟨g, rfl, _⟩ := own_form hR1 (by omega)
        have hgb : g = b := by
          rw [hb] at hat
          simpa [Value.ownBlock] using hat
        subst hgb
        have h1 := Kd.R_F (Kd.R_tight rfl hR1)
        have h2 : Kd.F k31 w1 (fun k => some k = (Value.slice (some ⟨g, 0, none⟩) xs'.length c').ownBlock) (some ⟨g, 0, none⟩) n L := Kd.F_imp h1 (fun W' hc => by
          have := Kd.C_take (m := n) hc hle
          rw [hpre] at this
          rw [Kd.F_len hF] at this
          exact this)
        exact Kd.F_mono h2 (fun k hk => hk)
      · exact Kd.F_grown hF hg (fun k hk he => hb (he.symm.trans hk))
    · exact Kd.F_grown hF hgn (fun k _ he => by cases he)
set_option maxHeartbeats 900000 in
set_option maxRecDepth 100000 in
theorem fresh_walk (k : Nat) (s : ByteArray) (l : List S31) (e p : Int) (w : World) (hG : LaidG w) (h1 : lex_Scan.f k s = some (l, e, p)) (h2 : whittlelaw4_able.f k = some true) (h3 : whittlelaw4_same.f k l l = some true) (hlen : l.length ≤ 1024) :
    Calls Tryd.prog 5 #[.string s] w fun e w' => e = .returned (.bool true) ∧ Below w.heap.size w w' := by
  have HGL := Aside0.mk hG
  have A1 := Aside0.mk h1
  have A2 := Aside0.mk h2
  have A3 := Aside0.mk h3
  have HLEN := Aside0.mk hlen
  clear hG h1 h2 h3 hlen
  have HB := Aside0.mk (Below.refl w.heap.size w)
  have FIRST : True := trivial
  have hu31 := Tryd.underlying31
  go_enter Tryd.func5, Tryd.ntmps5
  go_wp2_with (first | (go_at_call 11; (with_reducible refine (whittlelaw4_able.calls k true _ (LaidG.below HGL.out (by repeat (first | (with_reducible first | exact HB.out | apply below_alloc | apply pw_below_drewN | apply below_drew1) | exact HB.out))) A2.out).mono ?_); rintro e_ w3 ⟨rfl, hb⟩; have n1_ := Aside0.mk (below_step (by repeat (first | (with_reducible first | exact HB.out | apply below_alloc | apply pw_below_drewN | apply below_drew1) | exact HB.out)) hb); clear HB; have HB := n1_; clear n1_ hb))
  (have hf_ := FIRST; clear hf_ FIRST; (with_reducible refine (lex_Scan.calls k s l e p _ (LaidG.below HGL.out (by repeat (first | (with_reducible first | exact HB.out | apply below_alloc | apply pw_below_drewN | apply below_drew1) | exact HB.out))) A1.out).mono ?_); rintro e_ w1 ⟨v1, rfl, ho0, hb⟩; have n0_ := Aside0.mk (Kd.R_lower ho0 (below_size (by repeat (first | (with_reducible first | exact HB.out | apply below_alloc | apply pw_below_drewN | apply below_drew1) | exact HB.out)))); have n1_ := Aside0.mk (below_step (by repeat (first | (with_reducible first | exact HB.out | apply below_alloc | apply pw_below_drewN | apply below_drew1) | exact HB.out)) hb); clear HB; have HL := n0_; have HB := n1_; clear n0_ n1_ hb ho0)
  go_wp2_with (first | (go_at_call 9; (with_reducible refine (lex_Scan.calls k s l e p _ (LaidG.below HGL.out (by repeat (first | (with_reducible first | exact HB.out | apply below_alloc | apply pw_below_drewN | apply below_drew1) | exact HB.out))) A1.out).mono ?_); rintro e_ w2 ⟨v2, rfl, ho0, hb⟩; have n0_ := Aside0.mk (Kd.R_elder' (by (with_reducible repeat (first | apply Kd.R_alloc | apply Kd.R_drewN | apply Kd.R_drew)); exact HL.out) (Kd.R_base ho0) hb); have n1_ := Aside0.mk (Kd.R_lower (Kd.R_new' ho0 (Kd.R_lt (by (with_reducible repeat (first | apply Kd.R_alloc | apply Kd.R_drewN | apply Kd.R_drew)); exact HL.out))) (below_size (by repeat (first | (with_reducible first | exact HB.out | apply below_alloc | apply pw_below_drewN | apply below_drew1) | exact HB.out)))); have n2_ := Aside0.mk (below_step (by repeat (first | (with_reducible first | exact HB.out | apply below_alloc | apply pw_below_drewN | apply below_drew1) | exact HB.out)) hb); clear HB HL; have HL := n0_; have HM := n1_; have HB := n2_; clear n0_ n1_ n2_ hb ho0; obtain ⟨A1o, c1, eo1⟩ := Kd.R_slice HL.out; subst eo1; obtain ⟨A2o, c2, eo2⟩ := Kd.R_slice HM.out; subst eo2))
  go_wp2_with (first | (go_at_call 12; (with_reducible refine (whittlelaw4_same.calls k _ _ l _ _ l true _ ?side1 ?side2 ?side3 ?side4 A3.out).mono ?_); (case side1 => exact (Kd.R_reads' HL.out).2.2); (case side2 => exact (Kd.R_reads' HL.out).2.1); (case side3 => exact (Kd.R_reads' HM.out).2.2); (case side4 => exact (Kd.R_reads' HM.out).2.1); rintro e_ w' ⟨rfl, ⟨nd, rfl⟩⟩))
  go_loopw [9] (fun v wr => ∃ (i : Nat), v = .int .i64 (i : Int) ∧ Aside0 (i ≤ l.length) ∧ Aside0 (Kd.R k31 31 wr w.heap.size (fun k => True ∧ some k ≠ (Value.slice A2o l.length c2).ownBlock) (.slice A1o l.length c1) (mk 1000 l i)) ∧ Aside0 (Kd.R k31 31 wr w.heap.size (fun k => True ∧ some k ≠ (Value.slice A1o l.length c1).ownBlock) (.slice A2o l.length c2) l) ∧ Aside0 (Below w.heap.size w wr)) (fun v _ => l.length - (intOf v).toNat)
  case atStart => exact ⟨0, rfl, ⟨Nat.zero_le _⟩, ⟨by rw [mk_zero]; exact (by (with_reducible repeat (first | apply Kd.R_alloc | apply Kd.R_drewN | apply Kd.R_drew)); exact HL.out)⟩, ⟨(by (with_reducible repeat (first | apply Kd.R_alloc | apply Kd.R_drewN | apply Kd.R_drew)); exact HM.out)⟩, ⟨(by repeat (first | (with_reducible first | exact HB.out | apply below_alloc | apply pw_below_drewN | apply below_drew1) | exact HB.out))⟩⟩
  case round =>
    clear HL HM HB
    obtain ⟨i, rfl, HI, HL, HM, HB⟩ := hrel
    have hi := HI.out
    have hlen := HLEN.out
    by_cases hil : i < l.length
    · obtain ⟨g, rfl, hg1⟩ := own_form HL.out (by omega)
      have hcb : decide ((i : Int) < (l.length : Int)) = true := decide_eq_true (by omega)
      have hic : ((i : Int) < (l.length : Int)) = True := eq_true (by omega)
      have hi0 : ((0 : Int) ≤ (i : Int)) = True := eq_true (by omega)
      obtain ⟨ce, hcl, hM, hcc, hfr⟩ := Kd.R_elem HL.out z31 (i : Int) (by omega) (by omega)
      obtain rfl := k31_openM hM
      have HP := Kd.R_seg HL.out (i : Int) (by omega) (by omega) (seg := [.int .i64 0, .string (⟨#[]⟩ : ByteArray), .int .i64 (1000 + (i : Int))]) (j := 0) hcl hcc (show 0 + 3 ≤ 3 by decide) (x' := (⟨0, ⟨#[]⟩, 1000 + (i : Int)⟩ : S31)) (k31_mkM _ _ _ (⟨0, ⟨#[]⟩, 1000 + (i : Int)⟩ : S31)) (fun _ hk => hk)
      rw [Int.toNat_natCast, mk_set 1000 l i hil] at HP
      have hx0 := hcc 0 _ rfl
      have hx1 := hcc 1 _ rfl
      have hx2 := hcc 2 _ rfl
      have hf0 := hfr 0
      have hf1 := hfr 1
      have hf2 := hfr 2
      have HPA := Aside0.mk HP
      clear HP hcc hfr hM hcl hg1
      have hw1 : IntKind.i64.wrap ((i : Int) + 1) = (i : Int) + 1 := by rw [IntKind.wrap_i64]; omega
      have hw2 : IntKind.i64.wrap (1000 + (i : Int)) = 1000 + (i : Int) := by rw [IntKind.wrap_i64]; omega
      simp only [show k31.sz = 3 from rfl, Int.toNat_natCast, Nat.add_zero] at hx0 hx1 hx2 hf0 hf1 hf2
      go_wp2
      go_roundw
      case measure => simp [intOf]; omega
      case rel =>
        have hP1 : Kd.R k31 31 (((wr.setCell ⟨g, i * 3, none⟩ (.int .i64 0)).setCell ⟨g, i * 3 + 1, none⟩ (.string (⟨#[]⟩ : ByteArray))).setCell ⟨g, i * 3 + 2, none⟩ (.int .i64 (1000 + (i : Int)))) w.heap.size (fun k => True ∧ some k ≠ (Value.slice A2o l.length c2).ownBlock) (.slice (some ⟨g, 0, none⟩) l.length c1) (mk 1000 l (i + 1)) := HPA.out.1
        have hP2 : wr.grownBy (((wr.setCell ⟨g, i * 3, none⟩ (.int .i64 0)).setCell ⟨g, i * 3 + 1, none⟩ (.string (⟨#[]⟩ : ByteArray))).setCell ⟨g, i * 3 + 2, none⟩ (.int .i64 (1000 + (i : Int)))) (some g) := HPA.out.2
        exact ⟨i + 1, rfl, ⟨by omega⟩, ⟨hP1⟩, ⟨Kd.R_grown HM.out hP2 (fun k hk he => hk.2 (by rw [he]; rfl))⟩, ⟨HB.out.grown hP2 HB.out.size (fun k hk => by injection hk with hk; subst hk; exact Kd.R_base HL.out _ rfl)⟩⟩
    · obtain rfl : i = l.length := by omega
      have hcb : decide (((l.length : Nat) : Int) < (l.length : Int)) = false := decide_eq_false (by omega)
      have hic : (((l.length : Nat) : Int) < (l.length : Int)) = False := eq_false (by omega)
      clear hi HI
      go_wp2
      go_loopw [10] (fun v wr => ∃ (i : Nat), v = .int .i64 (i : Int) ∧ Aside0 (i ≤ l.length) ∧ Aside0 (Kd.R k31 31 wr w.heap.size (fun k => True ∧ some k ≠ (Value.slice A2o l.length c2).ownBlock) (.slice A1o l.length c1) (mk 1000 l l.length)) ∧ Aside0 (Kd.R k31 31 wr w.heap.size (fun k => True ∧ some k ≠ (Value.slice A1o l.length c1).ownBlock) (.slice A2o l.length c2) (mk 2000 l i)) ∧ Aside0 (Below w.heap.size w wr)) (fun v _ => l.length - (intOf v).toNat)
      case atStart => exact ⟨0, rfl, ⟨Nat.zero_le _⟩, HL, ⟨by rw [mk_zero]; exact HM.out⟩, HB⟩
      case round =>
        clear HL HM HB
        obtain ⟨i, rfl, HI, HL, HM, HB⟩ := hrel
        have hi := HI.out
        have hlen := HLEN.out
        by_cases hil : i < l.length
        · obtain ⟨g, rfl, hg1⟩ := own_form HM.out (by omega)
          have hcb : decide ((i : Int) < (l.length : Int)) = true := decide_eq_true (by omega)
          have hic : ((i : Int) < (l.length : Int)) = True := eq_true (by omega)
          have hi0 : ((0 : Int) ≤ (i : Int)) = True := eq_true (by omega)
          obtain ⟨ce, hcl, hM, hcc, hfr⟩ := Kd.R_elem HM.out z31 (i : Int) (by omega) (by omega)
          obtain rfl := k31_openM hM
          have HP := Kd.R_seg HM.out (i : Int) (by omega) (by omega) (seg := [.int .i64 0, .string (⟨#[]⟩ : ByteArray), .int .i64 (2000 + (i : Int))]) (j := 0) hcl hcc (show 0 + 3 ≤ 3 by decide) (x' := (⟨0, ⟨#[]⟩, 2000 + (i : Int)⟩ : S31)) (k31_mkM _ _ _ (⟨0, ⟨#[]⟩, 2000 + (i : Int)⟩ : S31)) (fun _ hk => hk)
          rw [Int.toNat_natCast, mk_set 2000 l i hil] at HP
          have hx0 := hcc 0 _ rfl
          have hx1 := hcc 1 _ rfl
          have hx2 := hcc 2 _ rfl
          have hf0 := hfr 0
          have hf1 := hfr 1
          have hf2 := hfr 2
          have HPA := Aside0.mk HP
          clear HP hcc hfr hM hcl hg1
          have hw1 : IntKind.i64.wrap ((i : Int) + 1) = (i : Int) + 1 := by rw [IntKind.wrap_i64]; omega
          have hw2 : IntKind.i64.wrap (2000 + (i : Int)) = 2000 + (i : Int) := by rw [IntKind.wrap_i64]; omega
          simp only [show k31.sz = 3 from rfl, Int.toNat_natCast, Nat.add_zero] at hx0 hx1 hx2 hf0 hf1 hf2
          go_wp2
          go_roundw
          case measure => simp [intOf]; omega
          case rel =>
            have hP1 : Kd.R k31 31 (((wr.setCell ⟨g, i * 3, none⟩ (.int .i64 0)).setCell ⟨g, i * 3 + 1, none⟩ (.string (⟨#[]⟩ : ByteArray))).setCell ⟨g, i * 3 + 2, none⟩ (.int .i64 (2000 + (i : Int)))) w.heap.size (fun k => True ∧ some k ≠ (Value.slice A1o l.length c1).ownBlock) (.slice (some ⟨g, 0, none⟩) l.length c2) (mk 2000 l (i + 1)) := HPA.out.1
            have hP2 : wr.grownBy (((wr.setCell ⟨g, i * 3, none⟩ (.int .i64 0)).setCell ⟨g, i * 3 + 1, none⟩ (.string (⟨#[]⟩ : ByteArray))).setCell ⟨g, i * 3 + 2, none⟩ (.int .i64 (2000 + (i : Int)))) (some g) := HPA.out.2
            exact ⟨i + 1, rfl, ⟨by omega⟩, ⟨Kd.R_grown HL.out hP2 (fun k hk he => hk.2 (by rw [he]; rfl))⟩, ⟨hP1⟩, ⟨HB.out.grown hP2 HB.out.size (fun k hk => by injection hk with hk; subst hk; exact Kd.R_base HM.out _ rfl)⟩⟩
        · obtain rfl : i = l.length := by omega
          have hcb : decide (((l.length : Nat) : Int) < (l.length : Int)) = false := decide_eq_false (by omega)
          have hic : (((l.length : Nat) : Int) < (l.length : Int)) = False := eq_false (by omega)
          clear hi HI
          go_wp2
          have HAPT : Aside0 (Apt (Value.slice A2o l.length c2) (Value.slice A1o l.length c1)) := ⟨fun k hk he => (HL.out.1 k he).2 hk.symm⟩
          have HFL : Aside0 (Kd.F k31 wr (fun k => some k = (Value.slice A1o l.length c1).ownBlock) A1o l.length (mk 1000 l l.length)) := ⟨Kd.R_F (Kd.R_tight rfl HL.out)⟩
          have HFO1 : Aside0 (0 < l.length → ∃ b, A1o = some ⟨b, 0, none⟩) := ⟨fun h => by obtain ⟨g, hg, _⟩ := own_form HL.out h; exact ⟨g, hg⟩⟩
          have HFO2 : Aside0 (0 < l.length → ∃ b, A2o = some ⟨b, 0, none⟩) := ⟨fun h => by obtain ⟨g, hg, _⟩ := own_form HM.out h; exact ⟨g, hg⟩⟩
          have HLT : Aside0 (∀ k, (Value.slice A1o l.length c1).ownBlock = some k → k < wr.heap.size) := ⟨Kd.R_lt HL.out⟩
          have HLN : Aside0 ((mk 1000 l l.length).length ≤ 1024 ∧ (mk 2000 l l.length).length ≤ 1024) := ⟨by rw [mk_len _ _ _ (Nat.le_refl _), mk_len _ _ _ (Nat.le_refl _)]; exact ⟨HLEN.out, HLEN.out⟩⟩
          have HG : Aside0 (Kd.R k31 31 wr w.heap.size (fun _ => True) (Value.slice A1o l.length c1) (mk 1000 l l.length)) := ⟨Kd.R_reok rfl HL.out (fun _ _ => trivial)⟩
          have HM2 : Aside0 (Kd.R k31 31 wr w.heap.size (fun _ => True) (Value.slice A2o l.length c2) (mk 2000 l l.length)) := ⟨Kd.R_reok rfl HM.out (fun _ _ => trivial)⟩
          clear HL HM hlen hcb hic hil
          go_loopw [11, 13] (fun v11 v13 wr => ∃ (j : Nat), v13 = .int .i64 (j : Int) ∧ Aside0 (j ≤ 40) ∧ Aside0 (Kd.R k31 31 wr w.heap.size (fun _ => True) v11 ((mk 1000 l l.length) ++ List.replicate j (⟨0, ⟨#[]⟩, -1⟩ : S31))) ∧ Aside0 (Kd.F k31 wr (fun k => some k = (Value.slice A1o l.length c1).ownBlock) A1o l.length (mk 1000 l l.length)) ∧ Aside0 (Kd.R k31 31 wr w.heap.size (fun _ => True) (Value.slice A2o l.length c2) (mk 2000 l l.length)) ∧ Aside0 (Apt (Value.slice A2o l.length c2) v11) ∧ Aside0 (∀ k, (Value.slice A1o l.length c1).ownBlock = some k → k < wr.heap.size) ∧ Aside0 (Below w.heap.size w wr)) (fun _ v13 _ => 40 - (intOf v13).toNat)
          case atStart => exact ⟨0, rfl, ⟨by omega⟩, ⟨by rw [List.replicate_zero, List.append_nil]; exact HG.out⟩, HFL, HM2, HAPT, HLT, HB⟩
          case round =>
            clear HG HFL HM2 HLT HB
            obtain ⟨j, rfl, HJ, HG, HFL, HM, HAP, HLT, HB⟩ := hrel
            have hjle := HJ.out
            by_cases hj : j < 40
            · have hcb : decide ((j : Int) < 40) = true := decide_eq_true (by omega)
              have hic : ((j : Int) < 40) = True := eq_true (by omega)
              have hw1 : IntKind.i64.wrap ((j : Int) + 1) = (j : Int) + 1 := by rw [IntKind.wrap_i64]; omega
              go_wp2_with (first | (at_builtin; refine R_append_keep k31 (w0 := w) w.heap.size rfl (.tmp 65) (.tmp 67) 22 31 (.agg #[(.int .i64 0), (.string ⟨#[]⟩), (.int .i64 0)]) 32 rfl Tryd.underlying22 info31 rfl (by decide) (by omega) u11 ((mk 1000 l l.length) ++ List.replicate j (⟨0, ⟨#[]⟩, -1⟩ : S31)) (⟨0, ⟨#[]⟩, -1⟩ : S31) [.int .i64 0, .string (⟨#[]⟩ : ByteArray), .int .i64 (-1)] (fun _ => True) (fun _ => False) rfl (by first | (go_simp; done) | (go_simp; rfl)) (k31_mkM _ _ _ (⟨0, ⟨#[]⟩, -1⟩ : S31)) (fun _ hk => hk.elim) (fun _ _ => trivial) HG.out HB.out HB.out.size ?aL ?_; (case aL => have := HLN.out; have := HJ.out; rw [List.length_append, List.length_replicate]; omega); intro v1 w1 hR hb hg hat; have HR1 := Aside0.mk hR; have HB1 := Aside0.mk hb; have HG1 := Aside0.mk hg; have HAT := Aside0.mk hat; clear hR hb hg hat))
              go_roundw
              case measure => simp [intOf]; omega
              case rel =>
                have hlt2 := Kd.R_lt HM.out
                have hps : (mk 1000 l l.length) ++ List.replicate j (⟨0, ⟨#[]⟩, -1⟩ : S31) ++ [(⟨0, ⟨#[]⟩, -1⟩ : S31)] = (mk 1000 l l.length) ++ List.replicate (j + 1) (⟨0, ⟨#[]⟩, -1⟩ : S31) := by rw [List.append_assoc, List.replicate_succ']
                have hR1 := HR1.out
                rw [hps] at hR1
                have hl1 : (mk 1000 l l.length).length = l.length := mk_len _ _ _ (Nat.le_refl _)
                refine ⟨j + 1, rfl, ⟨by omega⟩, ⟨hR1⟩, ⟨F_ext HFL.out HFO1.out hR1 (List.take_left' hl1) (by rw [List.length_append]; omega) HG1.out HAT.out⟩, ⟨mvR HM.out HG1.out (fun k hk => HAP.out k hk)⟩, ⟨fun k hk => ?_⟩, ⟨fun k hk => Nat.lt_of_lt_of_le (HLT.out k hk) HG1.out.size⟩, HB1⟩
                rcases HAT.out with hat | ⟨⟨b, hb, hle⟩, _⟩
                · rw [hat]; exact HAP.out k hk
                · rw [hb]
                  intro he
                  injection he with he
                  have := hlt2 k hk
                  omega
            · obtain rfl : j = 40 := by omega
              have hcb : decide (((40 : Nat) : Int) < 40) = false := by decide
              clear hj hjle HJ
              go_wp2
              simp only [show ((40 : Nat) : Int) = 40 from rfl]
              have HFM : Aside0 (Kd.F k31 wr (fun k => some k = (Value.slice A2o l.length c2).ownBlock) A2o l.length (mk 2000 l l.length)) := ⟨by
                have h := Kd.R_F (Kd.R_tight rfl HM.out)
                exact h⟩
              have HK : Aside0 (Kd.R k31 31 wr w.heap.size (fun _ => True) (Value.slice A2o l.length c2) (mk 2000 l l.length)) := HM
              have HA1 : Aside0 (Apt u11 (Value.slice A2o l.length c2)) := ⟨HAP.out.symm⟩
              have HA2 : Aside0 (Apt (Value.slice A1o l.length c1) (Value.slice A2o l.length c2)) := ⟨HAPT.out.symm⟩
              have HG0 : Aside0 (Kd.R k31 31 wr w.heap.size (fun _ => True) u11 ((mk 1000 l l.length) ++ List.replicate 40 (⟨0, ⟨#[]⟩, -1⟩ : S31))) := HG
              clear HG HM HAP HAPT hcb
              go_loopw [12, 14] (fun v12 v14 wr => ∃ (j : Nat), v14 = .int .i64 (j : Int) ∧ Aside0 (j ≤ 40) ∧ Aside0 (Kd.R k31 31 wr w.heap.size (fun _ => True) v12 ((mk 2000 l l.length) ++ List.replicate j (⟨0, ⟨#[]⟩, -2⟩ : S31))) ∧ Aside0 (Kd.F k31 wr (fun k => some k = (Value.slice A2o l.length c2).ownBlock) A2o l.length (mk 2000 l l.length)) ∧ Aside0 (Kd.R k31 31 wr w.heap.size (fun _ => True) u11 ((mk 1000 l l.length) ++ List.replicate 40 (⟨0, ⟨#[]⟩, -1⟩ : S31))) ∧ Aside0 (Kd.F k31 wr (fun k => some k = (Value.slice A1o l.length c1).ownBlock) A1o l.length (mk 1000 l l.length)) ∧ Aside0 (Apt u11 v12) ∧ Aside0 (Apt (Value.slice A1o l.length c1) v12) ∧ Aside0 (∀ k, (Value.slice A1o l.length c1).ownBlock = some k → k < wr.heap.size) ∧ Aside0 (Below w.heap.size w wr)) (fun _ v14 _ => 40 - (intOf v14).toNat)
              case atStart => exact ⟨0, rfl, ⟨by omega⟩, ⟨by rw [List.replicate_zero, List.append_nil]; exact HK.out⟩, HFM, HG0, HFL, HA1, HA2, HLT, HB⟩
              case round =>
                clear HK HFM HG0 HFL HA1 HA2 HLT HB
                obtain ⟨j, rfl, HJ, HG, HFM, HG0, HFL, HA1, HA2, HLT, HB⟩ := hrel
                have hjle := HJ.out
                by_cases hj : j < 40
                · have hcb : decide ((j : Int) < 40) = true := decide_eq_true (by omega)
                  have hic : ((j : Int) < 40) = True := eq_true (by omega)
                  have hw1 : IntKind.i64.wrap ((j : Int) + 1) = (j : Int) + 1 := by rw [IntKind.wrap_i64]; omega
                  go_wp2_with (first | (at_builtin; refine R_append_keep k31 (w0 := w) w.heap.size rfl (.tmp 73) (.tmp 75) 22 31 (.agg #[(.int .i64 0), (.string ⟨#[]⟩), (.int .i64 0)]) 32 rfl Tryd.underlying22 info31 rfl (by decide) (by omega) u12 ((mk 2000 l l.length) ++ List.replicate j (⟨0, ⟨#[]⟩, -2⟩ : S31)) (⟨0, ⟨#[]⟩, -2⟩ : S31) [.int .i64 0, .string (⟨#[]⟩ : ByteArray), .int .i64 (-2)] (fun _ => True) (fun _ => False) rfl (by first | (go_simp; done) | (go_simp; rfl)) (k31_mkM _ _ _ (⟨0, ⟨#[]⟩, -2⟩ : S31)) (fun _ hk => hk.elim) (fun _ _ => trivial) HG.out HB.out HB.out.size ?aL ?_; (case aL => have := HLN.out; have := HJ.out; rw [List.length_append, List.length_replicate]; omega); intro v1 w1 hR hb hg hat; have HR1 := Aside0.mk hR; have HB1 := Aside0.mk hb; have HG1 := Aside0.mk hg; have HAT := Aside0.mk hat; clear hR hb hg hat))
                  go_roundw
                  case measure => simp [intOf]; omega
                  case rel =>
                    have hlt2 := Kd.R_lt HG0.out
                    have hps : (mk 2000 l l.length) ++ List.replicate j (⟨0, ⟨#[]⟩, -2⟩ : S31) ++ [(⟨0, ⟨#[]⟩, -2⟩ : S31)] = (mk 2000 l l.length) ++ List.replicate (j + 1) (⟨0, ⟨#[]⟩, -2⟩ : S31) := by rw [List.append_assoc, List.replicate_succ']
                    have hR1 := HR1.out
                    rw [hps] at hR1
                    have hl1 : (mk 2000 l l.length).length = l.length := mk_len _ _ _ (Nat.le_refl _)
                    refine ⟨j + 1, rfl, ⟨by omega⟩, ⟨hR1⟩, ⟨F_ext HFM.out HFO2.out hR1 (List.take_left' hl1) (by rw [List.length_append]; omega) HG1.out HAT.out⟩, ⟨mvR HG0.out HG1.out (fun k hk => HA1.out k hk)⟩, ⟨Kd.F_grown HFL.out HG1.out (fun k hk he => HA2.out k hk.symm he.symm)⟩, ⟨fun k hk => ?_⟩, ⟨fun k hk => ?_⟩, ⟨fun k hk => Nat.lt_of_lt_of_le (HLT.out k hk) HG1.out.size⟩, HB1⟩
                    · rcases HAT.out with hat | ⟨⟨b, hb, hle⟩, _⟩
                      · rw [hat]; exact HA1.out k hk
                      · rw [hb]
                        intro he
                        injection he with he
                        have := hlt2 k hk
                        omega
                    · rcases HAT.out with hat | ⟨⟨b, hb, hle⟩, _⟩
                      · rw [hat]; exact HA2.out k hk
                      · rw [hb]
                        intro he
                        injection he with he
                        have := HLT.out k hk
                        omega
                · obtain rfl : j = 40 := by omega
                  have hcb : decide (((40 : Nat) : Int) < 40) = false := by decide
                  clear hj hjle HJ
                  go_wp2
                  simp only [show ((40 : Nat) : Int) = 40 from rfl]
                  have HCL : Aside0 (Kd.C k31 wr A1o l.length (mk 1000 l l.length)) := ⟨Kd.F_now HFL.out⟩
                  have HCM : Aside0 (Kd.C k31 wr A2o l.length (mk 2000 l l.length)) := ⟨Kd.F_now HFM.out⟩
                  have hgl : ((mk 1000 l l.length) ++ List.replicate 40 (⟨0, ⟨#[]⟩, -1⟩ : S31)).length = l.length + 40 := by rw [List.length_append, List.length_replicate, mk_len _ _ _ (Nat.le_refl _)]
                  have hhl : ((mk 2000 l l.length) ++ List.replicate 40 (⟨0, ⟨#[]⟩, -2⟩ : S31)).length = l.length + 40 := by rw [List.length_append, List.length_replicate, mk_len _ _ _ (Nat.le_refl _)]
                  obtain ⟨Ag, cg, hug, _, hCg0⟩ := Kd.R_reads HG0.out
                  obtain ⟨Ah, ch, huh, _, hCh0⟩ := Kd.R_reads HG.out
                  rw [hgl] at hug hCg0
                  rw [hhl] at huh hCh0
                  subst hug huh
                  have HCG := Aside0.mk hCg0
                  have HCH := Aside0.mk hCh0
                  clear hCg0 hCh0 hgl hhl HG HG0 HFL HFM HA1 HA2 HLT hcb
                  go_loopw [15] (fun v15 wz => ∃ (i : Nat), v15 = .int .i64 (i : Int) ∧ Aside0 (i ≤ l.length) ∧ wz = wr) (fun v15 _ => l.length - (intOf v15).toNat)
                  case atStart => exact ⟨0, rfl, ⟨by omega⟩, rfl⟩
                  case round =>
                    obtain ⟨i, rfl, HI, rfl⟩ := hrel
                    have hi := HI.out
                    have hlen := HLEN.out
                    by_cases hil : i < l.length
                    · have hcb : decide ((i : Int) < (l.length : Int)) = true := decide_eq_true (by omega)
                      have hic : ((i : Int) < (l.length : Int)) = True := eq_true (by omega)
                      have hic2 : ((i : Int) < ((l.length + 40 : Nat) : Int)) = True := eq_true (by omega)
                      have hic3 : ((i : Int) < (l.length : Int) + 40) = True := eq_true (by omega)
                      have hi0 : ((0 : Int) ≤ (i : Int)) = True := eq_true (by omega)
                      have hw1 : IntKind.i64.wrap ((i : Int) + 1) = (i : Int) + 1 := by rw [IntKind.wrap_i64]; omega
                      have hw2 : IntKind.i64.wrap (1000 + (i : Int)) = 1000 + (i : Int) := by rw [IntKind.wrap_i64]; omega
                      have hw3 : IntKind.i64.wrap (2000 + (i : Int)) = 2000 + (i : Int) := by rw [IntKind.wrap_i64]; omega
                      obtain ⟨adl, el, hl_0, hl_1, hl_2⟩ := at_T31 HCL.out (i : Int) (by omega) (by omega)
                      cases el
                      rw [show rd_T31 (mk 1000 l l.length) (i : Int) = ⟨0, ⟨#[]⟩, 1000 + (i : Int)⟩ by have := rd_mk 1000 l [] i hil; rwa [List.append_nil] at this] at hl_2
                      simp only [Int.toNat_natCast] at hl_2
                      obtain ⟨adm, em, hm_0, hm_1, hm_2⟩ := at_T31 HCM.out (i : Int) (by omega) (by omega)
                      cases em
                      rw [show rd_T31 (mk 2000 l l.length) (i : Int) = ⟨0, ⟨#[]⟩, 2000 + (i : Int)⟩ by have := rd_mk 2000 l [] i hil; rwa [List.append_nil] at this] at hm_2
                      simp only [Int.toNat_natCast] at hm_2
                      obtain ⟨adg, eg, hg_0, hg_1, hg_2⟩ := at_T31 HCG.out (i : Int) (by omega) (by omega)
                      cases eg
                      rw [rd_mk 1000 l _ i hil] at hg_2
                      simp only [Int.toNat_natCast] at hg_2
                      obtain ⟨adh, eh, hh_0, hh_1, hh_2⟩ := at_T31 HCH.out (i : Int) (by omega) (by omega)
                      cases eh
                      rw [rd_mk 2000 l _ i hil] at hh_2
                      simp only [Int.toNat_natCast] at hh_2
                      go_wp2
                      go_roundw
                      case measure => simp [intOf]; omega
                      case rel => exact ⟨i + 1, rfl, ⟨by omega⟩, trivial⟩
                    · obtain rfl : i = l.length := by omega
                      have hcb : decide (((l.length : Nat) : Int) < (l.length : Int)) = false := decide_eq_false (by omega)
                      have hic : (((l.length : Nat) : Int) < (l.length : Int)) = False := eq_false (by omega)
                      clear hi HI
                      go_wp2
                      go_loopw [16] (fun v16 wz => ∃ (i : Nat), v16 = .int .i64 (i : Int) ∧ Aside0 (l.length ≤ i ∧ i ≤ l.length + 40) ∧ wz = wr) (fun v16 _ => l.length + 40 - (intOf v16).toNat)
                      case atStart => exact ⟨l.length, rfl, ⟨by omega⟩, rfl⟩
                      case round =>
                        obtain ⟨i, rfl, HI, rfl⟩ := hrel
                        have hi := HI.out
                        have hlen := HLEN.out
                        by_cases hil : i < l.length + 40
                        · have hcb2 : decide ((i : Int) < (l.length : Int) + 40) = true := decide_eq_true (by omega)
                          have hcb3 : decide ((i : Int) < ((l.length + 40 : Nat) : Int)) = true := decide_eq_true (by omega)
                          have hic2 : ((i : Int) < ((l.length + 40 : Nat) : Int)) = True := eq_true (by omega)
                          have hic3 : ((i : Int) < (l.length : Int) + 40) = True := eq_true (by omega)
                          have hi0 : ((0 : Int) ≤ (i : Int)) = True := eq_true (by omega)
                          have hw1 : IntKind.i64.wrap ((i : Int) + 1) = (i : Int) + 1 := by rw [IntKind.wrap_i64]; omega
                          obtain ⟨adg, eg, hg_0, hg_1, hg_2⟩ := at_T31 HCG.out (i : Int) (by omega) (by omega)
                          cases eg
                          rw [rd_rep 1000 l _ i hi.1 hil] at hg_2
                          simp only [Int.toNat_natCast] at hg_2
                          obtain ⟨adh, eh, hh_0, hh_1, hh_2⟩ := at_T31 HCH.out (i : Int) (by omega) (by omega)
                          cases eh
                          rw [rd_rep 2000 l _ i hi.1 hil] at hh_2
                          simp only [Int.toNat_natCast] at hh_2
                          go_wp2
                          go_roundw
                          case measure => simp [intOf]; omega
                          case rel => exact ⟨i + 1, rfl, ⟨by omega⟩, trivial⟩
                        · obtain rfl : i = l.length + 40 := by omega
                          have hcb2 : decide (((l.length + 40 : Nat) : Int) < ((l.length + 40 : Nat) : Int)) = false := decide_eq_false (by omega)
                          have hic2 : (((l.length + 40 : Nat) : Int) < ((l.length + 40 : Nat) : Int)) = False := eq_false (by omega)
                          clear hi HI
                          go_wp2
                          go_ret
                          exact ⟨rfl, HB.out⟩
end Go.Proofs.YtceldhkfidmfkaaDoor.L
