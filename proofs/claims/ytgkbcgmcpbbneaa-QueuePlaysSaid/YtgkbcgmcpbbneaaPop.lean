/- The walk of (*queue.heap[entry]).pop at the heap of a queue. -/
import Derived.Test.YtgkbcgmcpbbneaaPush
namespace Go.Proofs.Ytgkbcgmcpbbneaa.Q
open Go Go.RowKit Go.Maps Go.Proofs.YtgkbcgmcpbbneaaW.PrintWords Go.Proofs.YtgkbcgmcpbbneaaW.PrintLast Go.Proofs.YtgkbcgmcpbbneaaW.PrintMore
attribute [local go_sem] max2_int min2_int max_two min_two max_three min_three max_four min_four
set_option maxRecDepth 100000
set_option linter.unusedVariables false
set_option linter.unusedSimpArgs false
theorem least1_cases (l : List S63) (i : Nat) : least1 l i = i ∨ (least1 l i = 2 * i + 1 ∧ 2 * i + 1 < l.length) := by
  unfold least1
  split
  · rename_i h; exact .inr ⟨rfl, h.1⟩
  · exact .inl rfl
theorem least2_cases (l : List S63) (i : Nat) : least2 l i = least1 l i ∨ (least2 l i = 2 * i + 2 ∧ 2 * i + 2 < l.length) := by
  unfold least2
  split
  · rename_i h; exact .inr ⟨rfl, h.1⟩
  · exact .inl rfl
theorem least2_bound (l : List S63) (i : Nat) : least2 l i = i ∨ (i < least2 l i ∧ least2 l i < l.length) := by
  rcases least2_cases l i with h | ⟨h, h2⟩
  · rcases least1_cases l i with k | ⟨k, k2⟩
    · exact .inl (h.trans k)
    · exact .inr (by omega)
  · exact .inr (by omega)
def Scan (xs : List S63) (i m q k : Nat) : Prop := (k = 2 * i + 1 ∧ q = i) ∨ (k = 2 * i + 2 ∧ 2 * i + 1 < m ∧ q = least1 xs i) ∨ (k = 2 * i + 3 ∧ 2 * i + 2 < m ∧ q = least2 xs i)
theorem scan_lt {xs : List S63} {i m q k : Nat} (h : Scan xs i m q k) (hm : xs.length = m) (h1 : k ≤ 2 * i + 2) (h2 : k < m) : q < m := by
  rcases h with ⟨h, rfl⟩ | ⟨h, k1, rfl⟩ | ⟨h, _⟩
  · omega
  · rcases least1_cases xs i with e | ⟨e, _⟩ <;> omega
  · omega
theorem scan_end {xs : List S63} {i m q k : Nat} (h : Scan xs i m q k) (hm : xs.length = m) (hk : ¬ (k ≤ 2 * i + 2 ∧ k < m)) : q = least2 xs i := by
  rcases h with ⟨h, rfl⟩ | ⟨h, k1, rfl⟩ | ⟨h, _, h3⟩
  · unfold least2 least1
    rw [if_neg (by omega), if_neg (by omega)]
  · unfold least2
    rw [if_neg (by omega)]
  · exact h3
theorem scan_yes {xs : List S63} {i m q k : Nat} (h : Scan xs i m q k) (hm : xs.length = m) (h1 : k ≤ 2 * i + 2) (h2 : k < m) (hlt : ordE (g63 xs k) (g63 xs q) < 0) : Scan xs i m k (k + 1) := by
  rcases h with ⟨rfl, rfl⟩ | ⟨rfl, k1, rfl⟩ | ⟨h, _⟩
  · exact .inr (.inl ⟨rfl, h2, by unfold least1; rw [if_pos ⟨by omega, hlt⟩]⟩)
  · exact .inr (.inr ⟨rfl, h2, by unfold least2; rw [if_pos ⟨by omega, hlt⟩]⟩)
  · omega
theorem scan_no {xs : List S63} {i m q k : Nat} (h : Scan xs i m q k) (hm : xs.length = m) (h1 : k ≤ 2 * i + 2) (h2 : k < m) (hlt : ¬ ordE (g63 xs k) (g63 xs q) < 0) : Scan xs i m q (k + 1) := by
  rcases h with ⟨rfl, rfl⟩ | ⟨rfl, k1, rfl⟩ | ⟨h, _⟩
  · exact .inr (.inl ⟨rfl, h2, by unfold least1; rw [if_neg (fun e => hlt e.2)]⟩)
  · exact .inr (.inr ⟨rfl, h2, by unfold least2; rw [if_neg (fun e => hlt e.2)]⟩)
  · omega
theorem downH_fuel : ∀ (f f' : Nat) (l : List S63) (i : Nat), l.length - i < f → l.length - i < f' → downH f l i = downH f' l i
  | 0, _, _, _, h, _ => by omega
  | _, 0, _, _, _, h => by omega
  | f + 1, f' + 1, l, i, h, h' => by
    unfold downH
    split
    · rfl
    · rename_i hne
      rcases least2_bound l i with k | ⟨k1, k2⟩
      · exact absurd k hne
      · exact downH_fuel f f' _ _ (by rw [swp_length]; omega) (by rw [swp_length]; omega)

set_option maxHeartbeats 8000000 in
theorem pop_calls (w : World) (F : Nat → Prop) (qb mb : Nat) (vs : Value) (g n cap m : Nat) (hp : List S63) (hb : QB w qb mb vs (.slice (some ⟨g, 0, none⟩) n cap)) (hR : Kd.R k63 63 w 0 F (.slice (some ⟨g, 0, none⟩) n cap) hp) (hn : n = m + 1) (hl : n ≤ 1000000) :
    Calls Try.prog 29 #[.pointer (some ⟨qb, 2, none⟩)] w fun e w' => e = .returned (.tuple #[]) ∧ QB w' qb mb vs (.slice (some ⟨g, 0, none⟩) m cap) ∧ Kd.R k63 63 w' 0 F (.slice (some ⟨g, 0, none⟩) m cap) (popH hp) ∧ Kp w w' (fun k => k = qb ∨ k = g) := by
  have hu63 := Try.underlying63
  have hu59 := Try.underlying59
  have hu55 := Try.underlying55
  have HK : Aside0 (Kp w w (fun k => k = qb ∨ k = g)) := ⟨Kp.refl _ _⟩
  have HQ := Aside0.mk hb
  have HR := Aside0.mk hR
  have HLN := Aside0.mk hl
  have HNM := Aside0.mk hn
  have HCAP : Aside0 (hp.length = n ∧ n ≤ cap) := ⟨⟨(Kd.R_reads' hR).1.symm, (Kd.R_reads' hR).2.1⟩⟩
  have hnm1 : m < n := by omega
  have hnm2 : n ≤ m + 1 := by omega
  clear hb hR hn
  go_enter Try.func29, Try.ntmps29
  have hcq : w.cell? ⟨qb, 2, none⟩ = some (.slice (some ⟨g, 0, none⟩) n cap) := (blk_cell HQ.out 2).trans rfl
  have hw1 : IntKind.i64.wrap ((n : Int) - 1) = (n : Int) - 1 := by rw [IntKind.wrap_i64]; omega
  go_wp2
  clear hw1
  have hm0 : ((n : Int) - 1) = (m : Int) := by omega
  rw [hm0]
  clear hm0
  obtain ⟨xl, hxl⟩ : ∃ z, g63 hp m = z := ⟨_, rfl⟩
  have HXxl := Aside0.mk hxl
  clear hxl
  obtain ⟨x0, hx0⟩ : ∃ z, g63 hp 0 = z := ⟨_, rfl⟩
  have HXx0 := Aside0.mk hx0
  clear hx0
  have HEL : Aside0 ((∀ j v, (ec xl)[j]? = some v → w.cell? ⟨g, m * 5 + j, none⟩ = some v) ∧ ∀ j, w.frozen? ⟨g, m * 5 + j, none⟩ = false) := ⟨by have := elem63 HR.out m (by omega); rwa [HXxl.out] at this⟩
  have HE0 : Aside0 ((∀ j v, (ec x0)[j]? = some v → w.cell? ⟨g, 0 * 5 + j, none⟩ = some v) ∧ ∀ j, w.frozen? ⟨g, 0 * 5 + j, none⟩ = false) := ⟨by have := elem63 HR.out 0 (by omega); rwa [HXx0.out] at this⟩
  have hl0 : (0 : Int) ≤ (m : Int) := by omega
  have hl1 : (m : Int) < (n : Int) := by omega
  have hl2 : (0 : Int) < (n : Int) := by omega
  have hHEL0 : w.cell? ⟨g, m * 5, none⟩ = some (.int .i64 xl.f0) := HEL.out.1 0 _ rfl
  have hfHEL0 : w.frozen? ⟨g, m * 5, none⟩ = false := HEL.out.2 0
  have hHEL1 : w.cell? ⟨g, m * 5 + 1, none⟩ = some (.int .i64 xl.f1) := HEL.out.1 1 _ rfl
  have hfHEL1 : w.frozen? ⟨g, m * 5 + 1, none⟩ = false := HEL.out.2 1
  have hHEL2 : w.cell? ⟨g, m * 5 + 2, none⟩ = some (.int .i64 xl.f2.f0) := HEL.out.1 2 _ rfl
  have hfHEL2 : w.frozen? ⟨g, m * 5 + 2, none⟩ = false := HEL.out.2 2
  have hHEL3 : w.cell? ⟨g, m * 5 + 3, none⟩ = some (.int .i64 xl.f2.f1) := HEL.out.1 3 _ rfl
  have hfHEL3 : w.frozen? ⟨g, m * 5 + 3, none⟩ = false := HEL.out.2 3
  have hHEL4 : w.cell? ⟨g, m * 5 + 4, none⟩ = some (.int .i64 xl.f2.f2) := HEL.out.1 4 _ rfl
  have hfHEL4 : w.frozen? ⟨g, m * 5 + 4, none⟩ = false := HEL.out.2 4
  have hHE00 : w.cell? ⟨g, 0, none⟩ = some (.int .i64 x0.f0) := by have := HE0.out.1 0 _ rfl; rwa [Nat.zero_mul, Nat.zero_add] at this
  have hfHE00 : w.frozen? ⟨g, 0, none⟩ = false := by have := HE0.out.2 0; rwa [Nat.zero_mul, Nat.zero_add] at this
  have hHE01 : w.cell? ⟨g, 1, none⟩ = some (.int .i64 x0.f1) := by have := HE0.out.1 1 _ rfl; rwa [Nat.zero_mul, Nat.zero_add] at this
  have hfHE01 : w.frozen? ⟨g, 1, none⟩ = false := by have := HE0.out.2 1; rwa [Nat.zero_mul, Nat.zero_add] at this
  have hHE02 : w.cell? ⟨g, 2, none⟩ = some (.int .i64 x0.f2.f0) := by have := HE0.out.1 2 _ rfl; rwa [Nat.zero_mul, Nat.zero_add] at this
  have hfHE02 : w.frozen? ⟨g, 2, none⟩ = false := by have := HE0.out.2 2; rwa [Nat.zero_mul, Nat.zero_add] at this
  have hHE03 : w.cell? ⟨g, 3, none⟩ = some (.int .i64 x0.f2.f1) := by have := HE0.out.1 3 _ rfl; rwa [Nat.zero_mul, Nat.zero_add] at this
  have hfHE03 : w.frozen? ⟨g, 3, none⟩ = false := by have := HE0.out.2 3; rwa [Nat.zero_mul, Nat.zero_add] at this
  have hHE04 : w.cell? ⟨g, 4, none⟩ = some (.int .i64 x0.f2.f2) := by have := HE0.out.1 4 _ rfl; rwa [Nat.zero_mul, Nat.zero_add] at this
  have hfHE04 : w.frozen? ⟨g, 4, none⟩ = false := by have := HE0.out.2 4; rwa [Nat.zero_mul, Nat.zero_add] at this
  have hne1 : qb ≠ g := fun e => Kd.R_ne HR.out HQ.out (by decide) (by rw [e]; rfl)
  have hne2 : g ≠ qb := fun e => hne1 e.symm
  go_region
  clear hcq hne2 hl0 hl1 hl2 hHEL0 hfHEL0 hHEL1 hfHEL1 hHEL2 hfHEL2 hHEL3 hfHEL3 hHEL4 hfHEL4 hHE00 hfHE00 hHE01 hfHE01 hHE02 hfHE02 hHE03 hfHE03 hHE04 hfHE04
  have HSW : Aside0 (Kd.R k63 63 (((((w.setCell ⟨g, 0, none⟩ (.int .i64 xl.f0)).setCell ⟨g, 1, none⟩ (.int .i64 xl.f1)).setCell ⟨g, 2, none⟩ (.int .i64 xl.f2.f0)).setCell ⟨g, 3, none⟩ (.int .i64 xl.f2.f1)).setCell ⟨g, 4, none⟩ (.int .i64 xl.f2.f2)) 0 F (.slice (some ⟨g, 0, none⟩) n cap) (hp.set 0 xl) ∧ w.grownBy (((((w.setCell ⟨g, 0, none⟩ (.int .i64 xl.f0)).setCell ⟨g, 1, none⟩ (.int .i64 xl.f1)).setCell ⟨g, 2, none⟩ (.int .i64 xl.f2.f0)).setCell ⟨g, 3, none⟩ (.int .i64 xl.f2.f1)).setCell ⟨g, 4, none⟩ (.int .i64 xl.f2.f2)) (some g)) := ⟨by have := put5_R HR.out 0 (by omega) xl; rw [Nat.zero_mul] at this; exact this⟩
  generalize (((((w.setCell ⟨g, 0, none⟩ (.int .i64 xl.f0)).setCell ⟨g, 1, none⟩ (.int .i64 xl.f1)).setCell ⟨g, 2, none⟩ (.int .i64 xl.f2.f0)).setCell ⟨g, 3, none⟩ (.int .i64 xl.f2.f1)).setCell ⟨g, 4, none⟩ (.int .i64 xl.f2.f2)) = w1 at HSW ⊢
  have n0_ : Aside0 (QB w1.drew qb mb vs (.slice (some ⟨g, 0, none⟩) n cap)) := ⟨(show QB w1 qb mb vs (.slice (some ⟨g, 0, none⟩) n cap) from blk_grown (w := w) (w1 := w1) HQ.out HSW.out.2 (fun e => hne1 (Option.some.inj e)))⟩
  have n1_ : Aside0 (Kd.R k63 63 w1.drew 0 F (.slice (some ⟨g, 0, none⟩) n cap) (hp.set 0 xl)) := ⟨Kd.R_drew HSW.out.1⟩
  have n2_ : Aside0 (Kp w w1.drew (fun k => k = qb ∨ k = g)) := ⟨Kp.drew (Kp.then_ HK.out (Kp.of_grown (S := fun k => k = g) HSW.out.2 (fun k hk => (Option.some.inj hk).symm)) (fun k hk => .inl (.inr hk)))⟩
  clear HQ HR HK HSW HEL HE0 hne1
  have HQ := n0_
  have HR := n1_
  have HK := n2_
  clear n0_ n1_ n2_
  generalize w1.drew = w2 at HQ HR HK ⊢
  have hcq : w2.cell? ⟨qb, 2, none⟩ = some (.slice (some ⟨g, 0, none⟩) n cap) := (blk_cell HQ.out 2).trans rfl
  have hfq := blk_frozen HQ.out 2
  have hmc : m ≤ cap := by have := HCAP.out.2; omega
  have hl0 : (0 : Int) ≤ (m : Int) := by omega
  have hl1 : (m : Int) ≤ (cap : Int) := by omega
  go_wp2
  clear hcq hfq hl0 hl1 hmc
  have n0_ : Aside0 (QB (w2.setCell ⟨qb, 2, none⟩ (.slice (some ⟨g, 0, none⟩) m cap)) qb mb vs (.slice (some ⟨g, 0, none⟩) m cap)) := ⟨blk_put (cs := qcs mb vs (.slice (some ⟨g, 0, none⟩) n cap)) HQ.out 2 _ rfl⟩
  have n1_ : Aside0 (Kd.R k63 63 (w2.setCell ⟨qb, 2, none⟩ (.slice (some ⟨g, 0, none⟩) m cap)) 0 F (.slice (some ⟨g, 0, none⟩) m cap) ((hp.set 0 xl).take m)) := ⟨Kd.R_set (Kd.R_take HR.out (m := m) (by rw [List.length_set, HCAP.out.1]; omega)) (cells := qcs mb vs (.slice (some ⟨g, 0, none⟩) n cap)) (t := 61) HQ.out (by intro q hq; simp [show k63.E = [] from rfl] at hq; omega) 2 _⟩
  have n2_ : Aside0 (Kp w (w2.setCell ⟨qb, 2, none⟩ (.slice (some ⟨g, 0, none⟩) m cap)) (fun k => k = qb ∨ k = g)) := ⟨Kp.setCell HK.out (.inl (.inl rfl)) _⟩
  clear HQ HR HK
  have HQ := n0_
  have HR := n1_
  have HK := n2_
  clear n0_ n1_ n2_
  generalize (w2.setCell ⟨qb, 2, none⟩ (.slice (some ⟨g, 0, none⟩) m cap)) = w4 at HQ HR HK ⊢
  have HU : Aside0 (∃ f, ((hp.set 0 xl).take m).length - 0 < f ∧ downH f ((hp.set 0 xl).take m) 0 = popH hp) := ⟨hp.length + 1, by rw [List.length_take, List.length_set]; omega, by unfold popH; rw [show hp.length - 1 = m by rw [HCAP.out.1]; omega, HXxl.out]⟩
  have HL0 : Aside0 (((hp.set 0 xl).take m).length = m) := ⟨by rw [List.length_take, List.length_set, HCAP.out.1]; omega⟩
  go_loopw [3] (fun v3 wr => ∃ (i : Nat) (xs : List S63), v3 = .int .i64 (i : Int) ∧ Aside0 ((i < m ∨ i = 0) ∧ xs.length = m) ∧ Aside0 (QB wr qb mb vs (.slice (some ⟨g, 0, none⟩) m cap)) ∧ Aside0 (Kd.R k63 63 wr 0 F (.slice (some ⟨g, 0, none⟩) m cap) xs) ∧ Aside0 (Kp w wr (fun k => k = qb ∨ k = g)) ∧ Aside0 (∃ f, xs.length - i < f ∧ downH f xs i = popH hp)) (fun v3 _ => m - (intOf v3).toNat)
  case atStart => exact ⟨0, ((hp.set 0 xl).take m), rfl, ⟨.inr rfl, HL0.out⟩, HQ, HR, HK, HU⟩
  case round =>
    clear HQ HR HK HU HL0
    obtain ⟨i, xs, rfl, HI, HQ, HR, HK, HU⟩ := hrel
    obtain ⟨wo, rfl⟩ : ∃ wo : World, wo = wr := ⟨_, rfl⟩
    have hib : i ≤ 1000000 := by have := HI.out.1; omega
    have hq1 : IntKind.i64.wrap (2 * (i : Int)) = 2 * (i : Int) := by rw [IntKind.wrap_i64]; omega
    have hq2 : IntKind.i64.wrap (2 * (i : Int) + 1) = 2 * (i : Int) + 1 := by rw [IntKind.wrap_i64]; omega
    go_wp2
    clear hq2
    have HSC : Aside0 (Scan xs i m i (2 * i + 1)) := ⟨.inl ⟨rfl, rfl⟩⟩
    go_loopw [4, 5] (fun v4 v5 wi => ∃ (q k : Nat), v4 = .int .i64 (q : Int) ∧ v5 = .int .i64 (k : Int) ∧ Aside0 (Scan xs i m q k) ∧ Aside0 (QB wi qb mb vs (.slice (some ⟨g, 0, none⟩) m cap)) ∧ Aside0 (Kd.R k63 63 wi 0 F (.slice (some ⟨g, 0, none⟩) m cap) xs) ∧ Aside0 (Kp w wi (fun k => k = qb ∨ k = g))) (fun _ v5 _ => 2 * i + 3 - (intOf v5).toNat)
    case atStart => exact ⟨i, 2 * i + 1, rfl, (by congr 1), HSC, HQ, HR, HK⟩
    case round =>
      clear HQ HR HK HSC
      obtain ⟨q, k, rfl, rfl, HSC, HQ, HR, HK⟩ := hrel
      have hq3 : IntKind.i64.wrap (2 * (i : Int) + 2) = 2 * (i : Int) + 2 := by rw [IntKind.wrap_i64]; omega
      have hkb : k ≤ 2 * i + 3 := by rcases HSC.out with h | h | h <;> omega
      have hk1 : IntKind.i64.wrap ((k : Int) + 1) = (k : Int) + 1 := by rw [IntKind.wrap_i64]; omega
      by_cases h1 : k ≤ 2 * i + 2
      · have hcb1 : decide ((k : Int) ≤ 2 * (i : Int) + 2) = true := decide_eq_true (by omega)
        have hic1 : ((k : Int) ≤ 2 * (i : Int) + 2) = True := eq_true (by omega)
        by_cases h2 : k < m
        · have hcb2 : decide ((k : Int) < (m : Int)) = true := decide_eq_true (by omega)
          have hic2 : ((k : Int) < (m : Int)) = True := eq_true (by omega)
          have hqm : q < m := scan_lt HSC.out HI.out.2 h1 h2
          obtain ⟨yk, hyk⟩ : ∃ z, g63 xs k = z := ⟨_, rfl⟩
          have HXyk := Aside0.mk hyk
          clear hyk
          obtain ⟨yq, hyq⟩ : ∃ z, g63 xs q = z := ⟨_, rfl⟩
          have HXyq := Aside0.mk hyq
          clear hyq
          have HEK : Aside0 ((∀ j v, (ec yk)[j]? = some v → wr.cell? ⟨g, k * 5 + j, none⟩ = some v) ∧ ∀ j, wr.frozen? ⟨g, k * 5 + j, none⟩ = false) := ⟨by have := elem63 HR.out k h2; rwa [HXyk.out] at this⟩
          have HEQ : Aside0 ((∀ j v, (ec yq)[j]? = some v → wr.cell? ⟨g, q * 5 + j, none⟩ = some v) ∧ ∀ j, wr.frozen? ⟨g, q * 5 + j, none⟩ = false) := ⟨by have := elem63 HR.out q hqm; rwa [HXyq.out] at this⟩
          have hk0 : (0 : Int) ≤ (k : Int) := by omega
          have hqq0 : (0 : Int) ≤ (q : Int) := by omega
          have hqq1 : (q : Int) < (m : Int) := by omega
          have hkk1 : (k : Int) < (m : Int) := by omega
          go_wp2
          by_cases hlt : ordE yk yq < 0
          · have hcd : decide (ordE yk yq < 0) = true := decide_eq_true hlt
            have HLT := Aside0.mk hlt
            clear hlt
            refine start_ (n := 20) (S := fun w' => w'.cell? ⟨qb, 2, none⟩ = some (.slice (some ⟨g, 0, none⟩) m cap) ∧ w'.cell? ⟨qb, 3, none⟩ = some (.func (.func 28) #[] #[]) ∧ w'.cell? ⟨g, k * 5, none⟩ = some (.int .i64 yk.f0) ∧ w'.cell? ⟨g, k * 5 + 1, none⟩ = some (.int .i64 yk.f1) ∧ w'.cell? ⟨g, k * 5 + 2, none⟩ = some (.int .i64 yk.f2.f0) ∧ w'.cell? ⟨g, k * 5 + 3, none⟩ = some (.int .i64 yk.f2.f1) ∧ w'.cell? ⟨g, k * 5 + 4, none⟩ = some (.int .i64 yk.f2.f2) ∧ w'.cell? ⟨g, q * 5, none⟩ = some (.int .i64 yq.f0) ∧ w'.cell? ⟨g, q * 5 + 1, none⟩ = some (.int .i64 yq.f1) ∧ w'.cell? ⟨g, q * 5 + 2, none⟩ = some (.int .i64 yq.f2.f0) ∧ w'.cell? ⟨g, q * 5 + 3, none⟩ = some (.int .i64 yq.f2.f1) ∧ w'.cell? ⟨g, q * 5 + 4, none⟩ = some (.int .i64 yq.f2.f2)) (ds := [18]) #[false, false, false, false, false, false, false, false, false, false, false, false, false, false, false, false, false, false, false, false] (by kernel_rfl) rfl rfl ⟨(blk_cell HQ.out 2).trans rfl, (blk_cell HQ.out 3).trans rfl, HEK.out.1 0 _ rfl, HEK.out.1 1 _ rfl, HEK.out.1 2 _ rfl, HEK.out.1 3 _ rfl, HEK.out.1 4 _ rfl, HEQ.out.1 0 _ rfl, HEQ.out.1 1 _ rfl, HEQ.out.1 2 _ rfl, HEQ.out.1 3 _ rfl, HEQ.out.1 4 _ rfl⟩ (fun hHeld => ?_)
            refine pure_ (i := 0) (N := some 49) (v := ?_) (a' := ?_) #[true, false, false, false, false, false, false, false, false, false, false, false, false, false, false, false, false, false, false, false] rfl rfl (by kernel_rfl) (fun _ _ _ h => h) (Or.inl ⟨by rfl, ?_⟩) ?_ ?_
            rotate_left
            · intro w'
              go_simp
              with_reducible rfl
            rotate_left
            · simp only [Act.put, List.setIfInBounds_toArray, List.set_cons_zero, List.set_cons_succ, i64_w, i32_w]
              rfl
            refine pure_ (i := 1) (N := some 50) (v := ?_) (a' := ?_) #[true, true, false, false, false, false, false, false, false, false, false, false, false, false, false, false, false, false, false, false] rfl rfl (by kernel_rfl) (fun _ _ _ h => h) (Or.inl ⟨by rfl, ?_⟩) ?_ ?_
            rotate_left
            · intro w'
              go_simp
              with_reducible rfl
            rotate_left
            · simp only [Act.put, List.setIfInBounds_toArray, List.set_cons_zero, List.set_cons_succ, i64_w, i32_w]
              rfl
            refine pure_ (i := 2) (N := some 51) (v := ?_) (a' := ?_) #[true, true, true, false, false, false, false, false, false, false, false, false, false, false, false, false, false, false, false, false] rfl rfl (by kernel_rfl) (fun _ _ _ h => h) (Or.inl ⟨by rfl, ?_⟩) ?_ ?_
            rotate_left
            · intro w'
              go_simp
              with_reducible rfl
            rotate_left
            · simp only [Act.put, List.setIfInBounds_toArray, List.set_cons_zero, List.set_cons_succ, i64_w, i32_w]
              rfl
            refine pure_ (i := 4) (N := some 53) (v := ?_) (a' := ?_) #[true, true, true, false, true, false, false, false, false, false, false, false, false, false, false, false, false, false, false, false] rfl rfl (by kernel_rfl) (fun _ _ _ h => h) (Or.inl ⟨by rfl, ?_⟩) ?_ ?_
            rotate_left
            · intro w'
              go_simp
              with_reducible rfl
            rotate_left
            · simp only [Act.put, List.setIfInBounds_toArray, List.set_cons_zero, List.set_cons_succ, i64_w, i32_w]
              rfl
            refine pure_ (i := 5) (N := some 54) (v := ?_) (a' := ?_) #[true, true, true, false, true, true, false, false, false, false, false, false, false, false, false, false, false, false, false, false] rfl rfl (by kernel_rfl) (fun _ _ _ h => h) (Or.inl ⟨by rfl, ?_⟩) ?_ ?_
            rotate_left
            · intro w'
              go_simp
              with_reducible rfl
            rotate_left
            · simp only [Act.put, List.setIfInBounds_toArray, List.set_cons_zero, List.set_cons_succ, i64_w, i32_w]
              rfl
            refine pure_ (i := 6) (N := some 55) (v := ?_) (a' := ?_) #[true, true, true, false, true, true, true, false, false, false, false, false, false, false, false, false, false, false, false, false] rfl rfl (by kernel_rfl) (fun _ _ _ h => h) (Or.inl ⟨by rfl, ?_⟩) ?_ ?_
            rotate_left
            · intro w'
              go_simp
              with_reducible rfl
            rotate_left
            · simp only [Act.put, List.setIfInBounds_toArray, List.set_cons_zero, List.set_cons_succ, i64_w, i32_w]
              rfl
            refine pure_ (i := 8) (N := some 57) (v := ?_) (a' := ?_) #[true, true, true, false, true, true, true, false, true, false, false, false, false, false, false, false, false, false, false, false] rfl rfl (by kernel_rfl) (fun _ _ _ h => h) (Or.inl ⟨by rfl, ?_⟩) ?_ ?_
            rotate_left
            · intro w'
              go_simp
              with_reducible rfl
            rotate_left
            · simp only [Act.put, List.setIfInBounds_toArray, List.set_cons_zero, List.set_cons_succ, i64_w, i32_w]
              rfl
            refine pure_ (i := 11) (N := some 60) (v := ?_) (a' := ?_) #[true, true, true, false, true, true, true, false, true, false, false, true, false, false, false, false, false, false, false, false] rfl rfl (by kernel_rfl) (fun _ _ _ h => h) (Or.inl ⟨by rfl, ?_⟩) ?_ ?_
            rotate_left
            · intro w'
              go_simp
              with_reducible rfl
            rotate_left
            · simp only [Act.put, List.setIfInBounds_toArray, List.set_cons_zero, List.set_cons_succ, i64_w, i32_w]
              rfl
            refine pure_ (i := 12) (N := some 61) (v := ?_) (a' := ?_) #[true, true, true, false, true, true, true, false, true, false, false, true, true, false, false, false, false, false, false, false] rfl rfl (by kernel_rfl) (fun _ _ _ h => h) (Or.inl ⟨by rfl, ?_⟩) ?_ ?_
            rotate_left
            · intro w'
              go_simp
              with_reducible rfl
            rotate_left
            · simp only [Act.put, List.setIfInBounds_toArray, List.set_cons_zero, List.set_cons_succ, i64_w, i32_w]
              rfl
            refine pure_ (i := 13) (N := some 62) (v := ?_) (a' := ?_) #[true, true, true, false, true, true, true, false, true, false, false, true, true, true, false, false, false, false, false, false] rfl rfl (by kernel_rfl) (fun _ _ _ h => h) (Or.inl ⟨by rfl, ?_⟩) ?_ ?_
            rotate_left
            · intro w'
              go_simp
              with_reducible rfl
            rotate_left
            · simp only [Act.put, List.setIfInBounds_toArray, List.set_cons_zero, List.set_cons_succ, i64_w, i32_w]
              rfl
            refine pure_ (i := 15) (N := some 64) (v := ?_) (a' := ?_) #[true, true, true, false, true, true, true, false, true, false, false, true, true, true, false, true, false, false, false, false] rfl rfl (by kernel_rfl) (fun _ _ _ h => h) (Or.inl ⟨by rfl, ?_⟩) ?_ ?_
            rotate_left
            · intro w'
              go_simp
              with_reducible rfl
            rotate_left
            · simp only [Act.put, List.setIfInBounds_toArray, List.set_cons_zero, List.set_cons_succ, i64_w, i32_w]
              rfl
            refine take_ (i := 3) (N := some 52) (v := ?_) (a' := ?_) #[true, true, true, true, true, true, true, false, true, false, false, true, true, true, false, true, false, false, false, false] rfl rfl (by kernel_rfl) (fun _ _ _ h => h) (Or.inl ⟨by rfl, ?_⟩) hHeld ?_ ?_
            rotate_left
            · rintro w' ⟨s0, s1, s2, s3, s4, s5, s6, s7, s8, s9, s10, s11⟩
              go_simp
              with_reducible rfl
            rotate_left
            · simp only [Act.put, List.setIfInBounds_toArray, List.set_cons_zero, List.set_cons_succ, i64_w, i32_w]
              rfl
            refine take_ (i := 7) (N := some 56) (v := ?_) (a' := ?_) #[true, true, true, true, true, true, true, true, true, false, false, true, true, true, false, true, false, false, false, false] rfl rfl (by kernel_rfl) (fun _ _ _ h => h) (Or.inl ⟨by rfl, ?_⟩) hHeld ?_ ?_
            rotate_left
            · rintro w' ⟨s0, s1, s2, s3, s4, s5, s6, s7, s8, s9, s10, s11⟩
              go_simp
              with_reducible rfl
            rotate_left
            · simp only [Act.put, List.setIfInBounds_toArray, List.set_cons_zero, List.set_cons_succ, i64_w, i32_w]
              rfl
            refine pure_ (i := 9) (N := some 58) (v := ?_) (a' := ?_) #[true, true, true, true, true, true, true, true, true, true, false, true, true, true, false, true, false, false, false, false] rfl rfl (by kernel_rfl) (fun _ _ _ h => h) (Or.inl ⟨by rfl, ?_⟩) ?_ ?_
            rotate_left
            · intro w'
              go_simp
              with_reducible rfl
            rotate_left
            · simp only [Act.put, List.setIfInBounds_toArray, List.set_cons_zero, List.set_cons_succ, i64_w, i32_w]
              rfl
            refine take_ (i := 10) (N := some 59) (v := ?_) (a' := ?_) #[true, true, true, true, true, true, true, true, true, true, true, true, true, true, false, true, false, false, false, false] rfl rfl (by kernel_rfl) (fun _ _ _ h => h) (Or.inl ⟨by rfl, ?_⟩) hHeld ?_ ?_
            rotate_left
            · rintro w' ⟨s0, s1, s2, s3, s4, s5, s6, s7, s8, s9, s10, s11⟩
              go_simp
              with_reducible rfl
            rotate_left
            · simp only [Act.put, List.setIfInBounds_toArray, List.set_cons_zero, List.set_cons_succ, i64_w, i32_w]
              rfl
            refine take_ (i := 14) (N := some 63) (v := ?_) (a' := ?_) #[true, true, true, true, true, true, true, true, true, true, true, true, true, true, true, true, false, false, false, false] rfl rfl (by kernel_rfl) (fun _ _ _ h => h) (Or.inl ⟨by rfl, ?_⟩) hHeld ?_ ?_
            rotate_left
            · rintro w' ⟨s0, s1, s2, s3, s4, s5, s6, s7, s8, s9, s10, s11⟩
              go_simp
              with_reducible rfl
            rotate_left
            · simp only [Act.put, List.setIfInBounds_toArray, List.set_cons_zero, List.set_cons_succ, i64_w, i32_w]
              rfl
            refine pure_ (i := 16) (N := some 65) (v := ?_) (a' := ?_) #[true, true, true, true, true, true, true, true, true, true, true, true, true, true, true, true, true, false, false, false] rfl rfl (by kernel_rfl) (fun _ _ _ h => h) (Or.inl ⟨by rfl, ?_⟩) ?_ ?_
            rotate_left
            · intro w'
              go_simp
              with_reducible rfl
            rotate_left
            · simp only [Act.put, List.setIfInBounds_toArray, List.set_cons_zero, List.set_cons_succ, i64_w, i32_w]
              rfl
            refine take_ (i := 17) (N := some 66) (v := ?_) (a' := ?_) #[true, true, true, true, true, true, true, true, true, true, true, true, true, true, true, true, true, true, false, false] rfl rfl (by kernel_rfl) (fun _ _ _ h => h) (Or.inl ⟨by rfl, ?_⟩) hHeld ?_ ?_
            rotate_left
            · rintro w' ⟨s0, s1, s2, s3, s4, s5, s6, s7, s8, s9, s10, s11⟩
              go_simp
              with_reducible rfl
            rotate_left
            · simp only [Act.put, List.setIfInBounds_toArray, List.set_cons_zero, List.set_cons_succ, i64_w, i32_w]
              rfl
            refine last_ (i := 18) (N := some 67) #[true, true, true, true, true, true, true, true, true, true, true, true, true, true, true, true, true, true, true, false] rfl rfl (by kernel_rfl) (by decide) (fun K hK => ?_)
            refine goesV_ Try.func28 (by kernel_rfl) rfl #[.agg #[(.int .i64 yk.f0), (.int .i64 yk.f1), (.int .i64 yk.f2.f0), (.int .i64 yk.f2.f1), (.int .i64 yk.f2.f2)], .agg #[(.int .i64 yq.f0), (.int .i64 yq.f1), (.int .i64 yq.f2.f0), (.int .i64 yq.f2.f1), (.int .i64 yq.f2.f2)]] (.tmp 52) (by rfl) rfl rfl (by rfl) (by simp only [List.map_toArray, List.map_cons, List.map_nil]; rfl) ?_
            with_reducible refine (queue_order.calls yk.f0 yk.f1 yk.f2.f0 yk.f2.f1 yk.f2.f2 yq.f0 yq.f1 yq.f2.f0 yq.f2.f1 yq.f2.f2 (ordE yk yq) _ (order_f yk yq)).mono ?_
            rintro e w6 ⟨rfl, hb⟩
            refine ⟨_, rfl, ?_⟩
            refine hK.out _ _ ?_
            clear hK K
            refine norm_ (a' := ?_) ?_ ?_
            rotate_left
            · show Act.put _ (some 67) _ = _
              simp only [Act.put, List.setIfInBounds_toArray, List.set_cons_zero, List.set_cons_succ, i64_w, i32_w]
              rfl
            refine pure_ (i := 19) (N := some 68) (v := ?_) (a' := ?_) #[true, true, true, true, true, true, true, true, true, true, true, true, true, true, true, true, true, true, true, true] rfl rfl (by kernel_rfl) (fun _ _ _ h => h) (Or.inl ⟨by rfl, ?_⟩) ?_ ?_
            rotate_left
            · intro w'
              go_simp
              with_reducible rfl
            rotate_left
            · simp only [Act.put, List.setIfInBounds_toArray, List.set_cons_zero, List.set_cons_succ, i64_w, i32_w]
              rfl
            refine done_ (by kernel_rfl) ?_
            have hb2 : Below wr.heap.size wr w6 := ⟨hb.os, hb.tape, hb.output, hb.size, hb.block⟩
            clear hb HEK HEQ
            have n0_ : Aside0 (Kp w w6 (fun k => k = qb ∨ k = g)) := ⟨(Kp.then_ HK.out (Kp.of_below hb2 (fun _ => False)) (fun _ h => h.elim))⟩
            have n1_ : Aside0 (QB w6 qb mb vs (.slice (some ⟨g, 0, none⟩) m cap)) := ⟨(QB.below HQ.out hb2)⟩
            have n2_ : Aside0 (Kd.R k63 63 w6 0 F (.slice (some ⟨g, 0, none⟩) m cap) xs) := ⟨(Kd.R_below HR.out hb2)⟩
            clear HK HQ HR
            have HK := n0_
            have HQ := n1_
            have HR := n2_
            clear n0_ n1_ n2_
            clear hb2
            go_wp2
            go_roundw
            case measure => simp [intOf]; omega
            case rel => exact ⟨k, k + 1, rfl, rfl, ⟨scan_yes HSC.out HI.out.2 h1 h2 (by rw [HXyk.out, HXyq.out]; exact HLT.out)⟩, HQ, HR, HK⟩
          · have hcd : decide (ordE yk yq < 0) = false := decide_eq_false hlt
            have HLT := Aside0.mk hlt
            clear hlt
            refine start_ (n := 20) (S := fun w' => w'.cell? ⟨qb, 2, none⟩ = some (.slice (some ⟨g, 0, none⟩) m cap) ∧ w'.cell? ⟨qb, 3, none⟩ = some (.func (.func 28) #[] #[]) ∧ w'.cell? ⟨g, k * 5, none⟩ = some (.int .i64 yk.f0) ∧ w'.cell? ⟨g, k * 5 + 1, none⟩ = some (.int .i64 yk.f1) ∧ w'.cell? ⟨g, k * 5 + 2, none⟩ = some (.int .i64 yk.f2.f0) ∧ w'.cell? ⟨g, k * 5 + 3, none⟩ = some (.int .i64 yk.f2.f1) ∧ w'.cell? ⟨g, k * 5 + 4, none⟩ = some (.int .i64 yk.f2.f2) ∧ w'.cell? ⟨g, q * 5, none⟩ = some (.int .i64 yq.f0) ∧ w'.cell? ⟨g, q * 5 + 1, none⟩ = some (.int .i64 yq.f1) ∧ w'.cell? ⟨g, q * 5 + 2, none⟩ = some (.int .i64 yq.f2.f0) ∧ w'.cell? ⟨g, q * 5 + 3, none⟩ = some (.int .i64 yq.f2.f1) ∧ w'.cell? ⟨g, q * 5 + 4, none⟩ = some (.int .i64 yq.f2.f2)) (ds := [18]) #[false, false, false, false, false, false, false, false, false, false, false, false, false, false, false, false, false, false, false, false] (by kernel_rfl) rfl rfl ⟨(blk_cell HQ.out 2).trans rfl, (blk_cell HQ.out 3).trans rfl, HEK.out.1 0 _ rfl, HEK.out.1 1 _ rfl, HEK.out.1 2 _ rfl, HEK.out.1 3 _ rfl, HEK.out.1 4 _ rfl, HEQ.out.1 0 _ rfl, HEQ.out.1 1 _ rfl, HEQ.out.1 2 _ rfl, HEQ.out.1 3 _ rfl, HEQ.out.1 4 _ rfl⟩ (fun hHeld => ?_)
            refine pure_ (i := 0) (N := some 49) (v := ?_) (a' := ?_) #[true, false, false, false, false, false, false, false, false, false, false, false, false, false, false, false, false, false, false, false] rfl rfl (by kernel_rfl) (fun _ _ _ h => h) (Or.inl ⟨by rfl, ?_⟩) ?_ ?_
            rotate_left
            · intro w'
              go_simp
              with_reducible rfl
            rotate_left
            · simp only [Act.put, List.setIfInBounds_toArray, List.set_cons_zero, List.set_cons_succ, i64_w, i32_w]
              rfl
            refine pure_ (i := 1) (N := some 50) (v := ?_) (a' := ?_) #[true, true, false, false, false, false, false, false, false, false, false, false, false, false, false, false, false, false, false, false] rfl rfl (by kernel_rfl) (fun _ _ _ h => h) (Or.inl ⟨by rfl, ?_⟩) ?_ ?_
            rotate_left
            · intro w'
              go_simp
              with_reducible rfl
            rotate_left
            · simp only [Act.put, List.setIfInBounds_toArray, List.set_cons_zero, List.set_cons_succ, i64_w, i32_w]
              rfl
            refine pure_ (i := 2) (N := some 51) (v := ?_) (a' := ?_) #[true, true, true, false, false, false, false, false, false, false, false, false, false, false, false, false, false, false, false, false] rfl rfl (by kernel_rfl) (fun _ _ _ h => h) (Or.inl ⟨by rfl, ?_⟩) ?_ ?_
            rotate_left
            · intro w'
              go_simp
              with_reducible rfl
            rotate_left
            · simp only [Act.put, List.setIfInBounds_toArray, List.set_cons_zero, List.set_cons_succ, i64_w, i32_w]
              rfl
            refine pure_ (i := 4) (N := some 53) (v := ?_) (a' := ?_) #[true, true, true, false, true, false, false, false, false, false, false, false, false, false, false, false, false, false, false, false] rfl rfl (by kernel_rfl) (fun _ _ _ h => h) (Or.inl ⟨by rfl, ?_⟩) ?_ ?_
            rotate_left
            · intro w'
              go_simp
              with_reducible rfl
            rotate_left
            · simp only [Act.put, List.setIfInBounds_toArray, List.set_cons_zero, List.set_cons_succ, i64_w, i32_w]
              rfl
            refine pure_ (i := 5) (N := some 54) (v := ?_) (a' := ?_) #[true, true, true, false, true, true, false, false, false, false, false, false, false, false, false, false, false, false, false, false] rfl rfl (by kernel_rfl) (fun _ _ _ h => h) (Or.inl ⟨by rfl, ?_⟩) ?_ ?_
            rotate_left
            · intro w'
              go_simp
              with_reducible rfl
            rotate_left
            · simp only [Act.put, List.setIfInBounds_toArray, List.set_cons_zero, List.set_cons_succ, i64_w, i32_w]
              rfl
            refine pure_ (i := 6) (N := some 55) (v := ?_) (a' := ?_) #[true, true, true, false, true, true, true, false, false, false, false, false, false, false, false, false, false, false, false, false] rfl rfl (by kernel_rfl) (fun _ _ _ h => h) (Or.inl ⟨by rfl, ?_⟩) ?_ ?_
            rotate_left
            · intro w'
              go_simp
              with_reducible rfl
            rotate_left
            · simp only [Act.put, List.setIfInBounds_toArray, List.set_cons_zero, List.set_cons_succ, i64_w, i32_w]
              rfl
            refine pure_ (i := 8) (N := some 57) (v := ?_) (a' := ?_) #[true, true, true, false, true, true, true, false, true, false, false, false, false, false, false, false, false, false, false, false] rfl rfl (by kernel_rfl) (fun _ _ _ h => h) (Or.inl ⟨by rfl, ?_⟩) ?_ ?_
            rotate_left
            · intro w'
              go_simp
              with_reducible rfl
            rotate_left
            · simp only [Act.put, List.setIfInBounds_toArray, List.set_cons_zero, List.set_cons_succ, i64_w, i32_w]
              rfl
            refine pure_ (i := 11) (N := some 60) (v := ?_) (a' := ?_) #[true, true, true, false, true, true, true, false, true, false, false, true, false, false, false, false, false, false, false, false] rfl rfl (by kernel_rfl) (fun _ _ _ h => h) (Or.inl ⟨by rfl, ?_⟩) ?_ ?_
            rotate_left
            · intro w'
              go_simp
              with_reducible rfl
            rotate_left
            · simp only [Act.put, List.setIfInBounds_toArray, List.set_cons_zero, List.set_cons_succ, i64_w, i32_w]
              rfl
            refine pure_ (i := 12) (N := some 61) (v := ?_) (a' := ?_) #[true, true, true, false, true, true, true, false, true, false, false, true, true, false, false, false, false, false, false, false] rfl rfl (by kernel_rfl) (fun _ _ _ h => h) (Or.inl ⟨by rfl, ?_⟩) ?_ ?_
            rotate_left
            · intro w'
              go_simp
              with_reducible rfl
            rotate_left
            · simp only [Act.put, List.setIfInBounds_toArray, List.set_cons_zero, List.set_cons_succ, i64_w, i32_w]
              rfl
            refine pure_ (i := 13) (N := some 62) (v := ?_) (a' := ?_) #[true, true, true, false, true, true, true, false, true, false, false, true, true, true, false, false, false, false, false, false] rfl rfl (by kernel_rfl) (fun _ _ _ h => h) (Or.inl ⟨by rfl, ?_⟩) ?_ ?_
            rotate_left
            · intro w'
              go_simp
              with_reducible rfl
            rotate_left
            · simp only [Act.put, List.setIfInBounds_toArray, List.set_cons_zero, List.set_cons_succ, i64_w, i32_w]
              rfl
            refine pure_ (i := 15) (N := some 64) (v := ?_) (a' := ?_) #[true, true, true, false, true, true, true, false, true, false, false, true, true, true, false, true, false, false, false, false] rfl rfl (by kernel_rfl) (fun _ _ _ h => h) (Or.inl ⟨by rfl, ?_⟩) ?_ ?_
            rotate_left
            · intro w'
              go_simp
              with_reducible rfl
            rotate_left
            · simp only [Act.put, List.setIfInBounds_toArray, List.set_cons_zero, List.set_cons_succ, i64_w, i32_w]
              rfl
            refine take_ (i := 3) (N := some 52) (v := ?_) (a' := ?_) #[true, true, true, true, true, true, true, false, true, false, false, true, true, true, false, true, false, false, false, false] rfl rfl (by kernel_rfl) (fun _ _ _ h => h) (Or.inl ⟨by rfl, ?_⟩) hHeld ?_ ?_
            rotate_left
            · rintro w' ⟨s0, s1, s2, s3, s4, s5, s6, s7, s8, s9, s10, s11⟩
              go_simp
              with_reducible rfl
            rotate_left
            · simp only [Act.put, List.setIfInBounds_toArray, List.set_cons_zero, List.set_cons_succ, i64_w, i32_w]
              rfl
            refine take_ (i := 7) (N := some 56) (v := ?_) (a' := ?_) #[true, true, true, true, true, true, true, true, true, false, false, true, true, true, false, true, false, false, false, false] rfl rfl (by kernel_rfl) (fun _ _ _ h => h) (Or.inl ⟨by rfl, ?_⟩) hHeld ?_ ?_
            rotate_left
            · rintro w' ⟨s0, s1, s2, s3, s4, s5, s6, s7, s8, s9, s10, s11⟩
              go_simp
              with_reducible rfl
            rotate_left
            · simp only [Act.put, List.setIfInBounds_toArray, List.set_cons_zero, List.set_cons_succ, i64_w, i32_w]
              rfl
            refine pure_ (i := 9) (N := some 58) (v := ?_) (a' := ?_) #[true, true, true, true, true, true, true, true, true, true, false, true, true, true, false, true, false, false, false, false] rfl rfl (by kernel_rfl) (fun _ _ _ h => h) (Or.inl ⟨by rfl, ?_⟩) ?_ ?_
            rotate_left
            · intro w'
              go_simp
              with_reducible rfl
            rotate_left
            · simp only [Act.put, List.setIfInBounds_toArray, List.set_cons_zero, List.set_cons_succ, i64_w, i32_w]
              rfl
            refine take_ (i := 10) (N := some 59) (v := ?_) (a' := ?_) #[true, true, true, true, true, true, true, true, true, true, true, true, true, true, false, true, false, false, false, false] rfl rfl (by kernel_rfl) (fun _ _ _ h => h) (Or.inl ⟨by rfl, ?_⟩) hHeld ?_ ?_
            rotate_left
            · rintro w' ⟨s0, s1, s2, s3, s4, s5, s6, s7, s8, s9, s10, s11⟩
              go_simp
              with_reducible rfl
            rotate_left
            · simp only [Act.put, List.setIfInBounds_toArray, List.set_cons_zero, List.set_cons_succ, i64_w, i32_w]
              rfl
            refine take_ (i := 14) (N := some 63) (v := ?_) (a' := ?_) #[true, true, true, true, true, true, true, true, true, true, true, true, true, true, true, true, false, false, false, false] rfl rfl (by kernel_rfl) (fun _ _ _ h => h) (Or.inl ⟨by rfl, ?_⟩) hHeld ?_ ?_
            rotate_left
            · rintro w' ⟨s0, s1, s2, s3, s4, s5, s6, s7, s8, s9, s10, s11⟩
              go_simp
              with_reducible rfl
            rotate_left
            · simp only [Act.put, List.setIfInBounds_toArray, List.set_cons_zero, List.set_cons_succ, i64_w, i32_w]
              rfl
            refine pure_ (i := 16) (N := some 65) (v := ?_) (a' := ?_) #[true, true, true, true, true, true, true, true, true, true, true, true, true, true, true, true, true, false, false, false] rfl rfl (by kernel_rfl) (fun _ _ _ h => h) (Or.inl ⟨by rfl, ?_⟩) ?_ ?_
            rotate_left
            · intro w'
              go_simp
              with_reducible rfl
            rotate_left
            · simp only [Act.put, List.setIfInBounds_toArray, List.set_cons_zero, List.set_cons_succ, i64_w, i32_w]
              rfl
            refine take_ (i := 17) (N := some 66) (v := ?_) (a' := ?_) #[true, true, true, true, true, true, true, true, true, true, true, true, true, true, true, true, true, true, false, false] rfl rfl (by kernel_rfl) (fun _ _ _ h => h) (Or.inl ⟨by rfl, ?_⟩) hHeld ?_ ?_
            rotate_left
            · rintro w' ⟨s0, s1, s2, s3, s4, s5, s6, s7, s8, s9, s10, s11⟩
              go_simp
              with_reducible rfl
            rotate_left
            · simp only [Act.put, List.setIfInBounds_toArray, List.set_cons_zero, List.set_cons_succ, i64_w, i32_w]
              rfl
            refine last_ (i := 18) (N := some 67) #[true, true, true, true, true, true, true, true, true, true, true, true, true, true, true, true, true, true, true, false] rfl rfl (by kernel_rfl) (by decide) (fun K hK => ?_)
            refine goesV_ Try.func28 (by kernel_rfl) rfl #[.agg #[(.int .i64 yk.f0), (.int .i64 yk.f1), (.int .i64 yk.f2.f0), (.int .i64 yk.f2.f1), (.int .i64 yk.f2.f2)], .agg #[(.int .i64 yq.f0), (.int .i64 yq.f1), (.int .i64 yq.f2.f0), (.int .i64 yq.f2.f1), (.int .i64 yq.f2.f2)]] (.tmp 52) (by rfl) rfl rfl (by rfl) (by simp only [List.map_toArray, List.map_cons, List.map_nil]; rfl) ?_
            with_reducible refine (queue_order.calls yk.f0 yk.f1 yk.f2.f0 yk.f2.f1 yk.f2.f2 yq.f0 yq.f1 yq.f2.f0 yq.f2.f1 yq.f2.f2 (ordE yk yq) _ (order_f yk yq)).mono ?_
            rintro e w6 ⟨rfl, hb⟩
            refine ⟨_, rfl, ?_⟩
            refine hK.out _ _ ?_
            clear hK K
            refine norm_ (a' := ?_) ?_ ?_
            rotate_left
            · show Act.put _ (some 67) _ = _
              simp only [Act.put, List.setIfInBounds_toArray, List.set_cons_zero, List.set_cons_succ, i64_w, i32_w]
              rfl
            refine pure_ (i := 19) (N := some 68) (v := ?_) (a' := ?_) #[true, true, true, true, true, true, true, true, true, true, true, true, true, true, true, true, true, true, true, true] rfl rfl (by kernel_rfl) (fun _ _ _ h => h) (Or.inl ⟨by rfl, ?_⟩) ?_ ?_
            rotate_left
            · intro w'
              go_simp
              with_reducible rfl
            rotate_left
            · simp only [Act.put, List.setIfInBounds_toArray, List.set_cons_zero, List.set_cons_succ, i64_w, i32_w]
              rfl
            refine done_ (by kernel_rfl) ?_
            have hb2 : Below wr.heap.size wr w6 := ⟨hb.os, hb.tape, hb.output, hb.size, hb.block⟩
            clear hb HEK HEQ
            have n0_ : Aside0 (Kp w w6 (fun k => k = qb ∨ k = g)) := ⟨(Kp.then_ HK.out (Kp.of_below hb2 (fun _ => False)) (fun _ h => h.elim))⟩
            have n1_ : Aside0 (QB w6 qb mb vs (.slice (some ⟨g, 0, none⟩) m cap)) := ⟨(QB.below HQ.out hb2)⟩
            have n2_ : Aside0 (Kd.R k63 63 w6 0 F (.slice (some ⟨g, 0, none⟩) m cap) xs) := ⟨(Kd.R_below HR.out hb2)⟩
            clear HK HQ HR
            have HK := n0_
            have HQ := n1_
            have HR := n2_
            clear n0_ n1_ n2_
            clear hb2
            go_wp2
            go_roundw
            case measure => simp [intOf]; omega
            case rel => exact ⟨q, k + 1, rfl, rfl, ⟨scan_no HSC.out HI.out.2 h1 h2 (by rw [HXyk.out, HXyq.out]; exact HLT.out)⟩, HQ, HR, HK⟩
        · have hcb2 : decide ((k : Int) < (m : Int)) = false := decide_eq_false (by omega)
          have hic2 : ((k : Int) < (m : Int)) = False := eq_false (by omega)
          have hql : q = least2 xs i := scan_end HSC.out HI.out.2 (by omega)
          have HQL := Aside0.mk hql
          clear hql
          by_cases heq : q = i
          · have hce : ((q : Int) == (i : Int)) = true := by rw [heq]; simp
            go_wp2
            subst heq
            have hfin : xs = popH hp := by obtain ⟨f, hf, h⟩ := HU.out; cases f with | zero => exact absurd hf (Nat.not_lt_zero _) | succ f => unfold downH at h; rwa [if_pos HQL.out.symm] at h
            subst hfin
            go_end0
            exact ⟨rfl, HQ.out, HR.out, HK.out⟩
          · have hce : ((q : Int) == (i : Int)) = false := by simp; omega
            have hqb : i < q ∧ q < m := by rcases least2_bound xs i with h | h; exact absurd (HQL.out.trans h) heq; rw [← HQL.out, HI.out.2] at h; exact h
            obtain ⟨hqb1, hqb2⟩ := hqb
            clear heq
            go_wp2
            clear hce
            (try clear hcb1)
            (try clear hic1)
            (try clear hcb2)
            (try clear hic2)
            obtain ⟨yi, hyi⟩ : ∃ z, g63 xs i = z := ⟨_, rfl⟩
            have HXyi := Aside0.mk hyi
            clear hyi
            obtain ⟨yl, hyl⟩ : ∃ z, g63 xs q = z := ⟨_, rfl⟩
            have HXyl := Aside0.mk hyl
            clear hyl
            have HEI : Aside0 ((∀ j v, (ec yi)[j]? = some v → wr.cell? ⟨g, i * 5 + j, none⟩ = some v) ∧ ∀ j, wr.frozen? ⟨g, i * 5 + j, none⟩ = false) := ⟨by have := elem63 HR.out i (by omega); rwa [HXyi.out] at this⟩
            have HEL : Aside0 ((∀ j v, (ec yl)[j]? = some v → wr.cell? ⟨g, q * 5 + j, none⟩ = some v) ∧ ∀ j, wr.frozen? ⟨g, q * 5 + j, none⟩ = false) := ⟨by have := elem63 HR.out q (by omega); rwa [HXyl.out] at this⟩
            have hcq2 : wr.cell? ⟨qb, 2, none⟩ = some (.slice (some ⟨g, 0, none⟩) m cap) := (blk_cell HQ.out 2).trans rfl
            have hHEI0 : wr.cell? ⟨g, i * 5, none⟩ = some (.int .i64 yi.f0) := HEI.out.1 0 _ rfl
            have hfHEI0 : wr.frozen? ⟨g, i * 5, none⟩ = false := HEI.out.2 0
            have hHEI1 : wr.cell? ⟨g, i * 5 + 1, none⟩ = some (.int .i64 yi.f1) := HEI.out.1 1 _ rfl
            have hfHEI1 : wr.frozen? ⟨g, i * 5 + 1, none⟩ = false := HEI.out.2 1
            have hHEI2 : wr.cell? ⟨g, i * 5 + 2, none⟩ = some (.int .i64 yi.f2.f0) := HEI.out.1 2 _ rfl
            have hfHEI2 : wr.frozen? ⟨g, i * 5 + 2, none⟩ = false := HEI.out.2 2
            have hHEI3 : wr.cell? ⟨g, i * 5 + 3, none⟩ = some (.int .i64 yi.f2.f1) := HEI.out.1 3 _ rfl
            have hfHEI3 : wr.frozen? ⟨g, i * 5 + 3, none⟩ = false := HEI.out.2 3
            have hHEI4 : wr.cell? ⟨g, i * 5 + 4, none⟩ = some (.int .i64 yi.f2.f2) := HEI.out.1 4 _ rfl
            have hfHEI4 : wr.frozen? ⟨g, i * 5 + 4, none⟩ = false := HEI.out.2 4
            have hHEL0 : wr.cell? ⟨g, q * 5, none⟩ = some (.int .i64 yl.f0) := HEL.out.1 0 _ rfl
            have hfHEL0 : wr.frozen? ⟨g, q * 5, none⟩ = false := HEL.out.2 0
            have hHEL1 : wr.cell? ⟨g, q * 5 + 1, none⟩ = some (.int .i64 yl.f1) := HEL.out.1 1 _ rfl
            have hfHEL1 : wr.frozen? ⟨g, q * 5 + 1, none⟩ = false := HEL.out.2 1
            have hHEL2 : wr.cell? ⟨g, q * 5 + 2, none⟩ = some (.int .i64 yl.f2.f0) := HEL.out.1 2 _ rfl
            have hfHEL2 : wr.frozen? ⟨g, q * 5 + 2, none⟩ = false := HEL.out.2 2
            have hHEL3 : wr.cell? ⟨g, q * 5 + 3, none⟩ = some (.int .i64 yl.f2.f1) := HEL.out.1 3 _ rfl
            have hfHEL3 : wr.frozen? ⟨g, q * 5 + 3, none⟩ = false := HEL.out.2 3
            have hHEL4 : wr.cell? ⟨g, q * 5 + 4, none⟩ = some (.int .i64 yl.f2.f2) := HEL.out.1 4 _ rfl
            have hfHEL4 : wr.frozen? ⟨g, q * 5 + 4, none⟩ = false := HEL.out.2 4
            have hii0 : (0 : Int) ≤ (i : Int) := by omega
            have hii1 : (i : Int) < (m : Int) := by omega
            have hqq0 : (0 : Int) ≤ (q : Int) := by omega
            have hqq1 : (q : Int) < (m : Int) := by omega
            have hne1 : qb ≠ g := fun e => Kd.R_ne HR.out HQ.out (by decide) (by rw [e]; rfl)
            have hne2 : g ≠ qb := fun e => hne1 e.symm
            go_region
            clear hcq2 hne2 hii0 hii1 hqq0 hqq1 hHEI0 hfHEI0 hHEI1 hfHEI1 hHEI2 hfHEI2 hHEI3 hfHEI3 hHEI4 hfHEI4 hHEL0 hfHEL0 hHEL1 hfHEL1 hHEL2 hfHEL2 hHEL3 hfHEL3 hHEL4 hfHEL4
            have HSW : Aside0 (Kd.R k63 63 ((((((((((wr.setCell ⟨g, q * 5, none⟩ (.int .i64 yi.f0)).setCell ⟨g, q * 5 + 1, none⟩ (.int .i64 yi.f1)).setCell ⟨g, q * 5 + 2, none⟩ (.int .i64 yi.f2.f0)).setCell ⟨g, q * 5 + 3, none⟩ (.int .i64 yi.f2.f1)).setCell ⟨g, q * 5 + 4, none⟩ (.int .i64 yi.f2.f2)).setCell ⟨g, i * 5, none⟩ (.int .i64 yl.f0)).setCell ⟨g, i * 5 + 1, none⟩ (.int .i64 yl.f1)).setCell ⟨g, i * 5 + 2, none⟩ (.int .i64 yl.f2.f0)).setCell ⟨g, i * 5 + 3, none⟩ (.int .i64 yl.f2.f1)).setCell ⟨g, i * 5 + 4, none⟩ (.int .i64 yl.f2.f2)) 0 F (.slice (some ⟨g, 0, none⟩) m cap) (swp xs q i) ∧ wr.grownBy ((((((((((wr.setCell ⟨g, q * 5, none⟩ (.int .i64 yi.f0)).setCell ⟨g, q * 5 + 1, none⟩ (.int .i64 yi.f1)).setCell ⟨g, q * 5 + 2, none⟩ (.int .i64 yi.f2.f0)).setCell ⟨g, q * 5 + 3, none⟩ (.int .i64 yi.f2.f1)).setCell ⟨g, q * 5 + 4, none⟩ (.int .i64 yi.f2.f2)).setCell ⟨g, i * 5, none⟩ (.int .i64 yl.f0)).setCell ⟨g, i * 5 + 1, none⟩ (.int .i64 yl.f1)).setCell ⟨g, i * 5 + 2, none⟩ (.int .i64 yl.f2.f0)).setCell ⟨g, i * 5 + 3, none⟩ (.int .i64 yl.f2.f1)).setCell ⟨g, i * 5 + 4, none⟩ (.int .i64 yl.f2.f2)) (some g)) := ⟨swap_R HR.out q i (by omega) (by omega) HXyl.out HXyi.out⟩
            generalize ((((((((((wr.setCell ⟨g, q * 5, none⟩ (.int .i64 yi.f0)).setCell ⟨g, q * 5 + 1, none⟩ (.int .i64 yi.f1)).setCell ⟨g, q * 5 + 2, none⟩ (.int .i64 yi.f2.f0)).setCell ⟨g, q * 5 + 3, none⟩ (.int .i64 yi.f2.f1)).setCell ⟨g, q * 5 + 4, none⟩ (.int .i64 yi.f2.f2)).setCell ⟨g, i * 5, none⟩ (.int .i64 yl.f0)).setCell ⟨g, i * 5 + 1, none⟩ (.int .i64 yl.f1)).setCell ⟨g, i * 5 + 2, none⟩ (.int .i64 yl.f2.f0)).setCell ⟨g, i * 5 + 3, none⟩ (.int .i64 yl.f2.f1)).setCell ⟨g, i * 5 + 4, none⟩ (.int .i64 yl.f2.f2)) = w7 at HSW ⊢
            have n0_ : Aside0 (QB w7.drew qb mb vs (.slice (some ⟨g, 0, none⟩) m cap)) := ⟨(show QB w7 qb mb vs (.slice (some ⟨g, 0, none⟩) m cap) from blk_grown (w := wr) (w1 := w7) HQ.out HSW.out.2 (fun e => hne1 (Option.some.inj e)))⟩
            have n1_ : Aside0 (Kd.R k63 63 w7.drew 0 F (.slice (some ⟨g, 0, none⟩) m cap) (swp xs q i)) := ⟨Kd.R_drew HSW.out.1⟩
            have n2_ : Aside0 (Kp w w7.drew (fun k => k = qb ∨ k = g)) := ⟨Kp.drew (Kp.then_ HK.out (Kp.of_grown (S := fun k => k = g) HSW.out.2 (fun k hk => (Option.some.inj hk).symm)) (fun k hk => .inl (.inr hk)))⟩
            clear HQ HR HK HSW HEI HEL hne1
            have HQ := n0_
            have HR := n1_
            have HK := n2_
            clear n0_ n1_ n2_
            generalize w7.drew = w8 at HQ HR HK ⊢
            go_wp2
            go_roundw
            case measure => simp [intOf]; omega
            case rel => exact ⟨q, swp xs q i, rfl, ⟨.inl hqb2, by rw [swp_length]; exact HI.out.2⟩, HQ, HR, HK, ⟨by obtain ⟨f, hf, h⟩ := HU.out; cases f with | zero => exact absurd hf (Nat.not_lt_zero _) | succ f => unfold downH at h; rw [if_neg (by rw [← HQL.out]; omega), ← HQL.out] at h; exact ⟨f, by rw [swp_length, HI.out.2] at *; omega, h⟩⟩⟩
      · have hcb1 : decide ((k : Int) ≤ 2 * (i : Int) + 2) = false := decide_eq_false (by omega)
        have hic1 : ((k : Int) ≤ 2 * (i : Int) + 2) = False := eq_false (by omega)
        have hql : q = least2 xs i := scan_end HSC.out HI.out.2 (by omega)
        have HQL := Aside0.mk hql
        clear hql
        by_cases heq : q = i
        · have hce : ((q : Int) == (i : Int)) = true := by rw [heq]; simp
          go_wp2
          subst heq
          have hfin : xs = popH hp := by obtain ⟨f, hf, h⟩ := HU.out; cases f with | zero => exact absurd hf (Nat.not_lt_zero _) | succ f => unfold downH at h; rwa [if_pos HQL.out.symm] at h
          subst hfin
          go_end0
          exact ⟨rfl, HQ.out, HR.out, HK.out⟩
        · have hce : ((q : Int) == (i : Int)) = false := by simp; omega
          have hqb : i < q ∧ q < m := by rcases least2_bound xs i with h | h; exact absurd (HQL.out.trans h) heq; rw [← HQL.out, HI.out.2] at h; exact h
          obtain ⟨hqb1, hqb2⟩ := hqb
          clear heq
          go_wp2
          clear hce
          (try clear hcb1)
          (try clear hic1)
          (try clear hcb2)
          (try clear hic2)
          obtain ⟨yi, hyi⟩ : ∃ z, g63 xs i = z := ⟨_, rfl⟩
          have HXyi := Aside0.mk hyi
          clear hyi
          obtain ⟨yl, hyl⟩ : ∃ z, g63 xs q = z := ⟨_, rfl⟩
          have HXyl := Aside0.mk hyl
          clear hyl
          have HEI : Aside0 ((∀ j v, (ec yi)[j]? = some v → wr.cell? ⟨g, i * 5 + j, none⟩ = some v) ∧ ∀ j, wr.frozen? ⟨g, i * 5 + j, none⟩ = false) := ⟨by have := elem63 HR.out i (by omega); rwa [HXyi.out] at this⟩
          have HEL : Aside0 ((∀ j v, (ec yl)[j]? = some v → wr.cell? ⟨g, q * 5 + j, none⟩ = some v) ∧ ∀ j, wr.frozen? ⟨g, q * 5 + j, none⟩ = false) := ⟨by have := elem63 HR.out q (by omega); rwa [HXyl.out] at this⟩
          have hcq2 : wr.cell? ⟨qb, 2, none⟩ = some (.slice (some ⟨g, 0, none⟩) m cap) := (blk_cell HQ.out 2).trans rfl
          have hHEI0 : wr.cell? ⟨g, i * 5, none⟩ = some (.int .i64 yi.f0) := HEI.out.1 0 _ rfl
          have hfHEI0 : wr.frozen? ⟨g, i * 5, none⟩ = false := HEI.out.2 0
          have hHEI1 : wr.cell? ⟨g, i * 5 + 1, none⟩ = some (.int .i64 yi.f1) := HEI.out.1 1 _ rfl
          have hfHEI1 : wr.frozen? ⟨g, i * 5 + 1, none⟩ = false := HEI.out.2 1
          have hHEI2 : wr.cell? ⟨g, i * 5 + 2, none⟩ = some (.int .i64 yi.f2.f0) := HEI.out.1 2 _ rfl
          have hfHEI2 : wr.frozen? ⟨g, i * 5 + 2, none⟩ = false := HEI.out.2 2
          have hHEI3 : wr.cell? ⟨g, i * 5 + 3, none⟩ = some (.int .i64 yi.f2.f1) := HEI.out.1 3 _ rfl
          have hfHEI3 : wr.frozen? ⟨g, i * 5 + 3, none⟩ = false := HEI.out.2 3
          have hHEI4 : wr.cell? ⟨g, i * 5 + 4, none⟩ = some (.int .i64 yi.f2.f2) := HEI.out.1 4 _ rfl
          have hfHEI4 : wr.frozen? ⟨g, i * 5 + 4, none⟩ = false := HEI.out.2 4
          have hHEL0 : wr.cell? ⟨g, q * 5, none⟩ = some (.int .i64 yl.f0) := HEL.out.1 0 _ rfl
          have hfHEL0 : wr.frozen? ⟨g, q * 5, none⟩ = false := HEL.out.2 0
          have hHEL1 : wr.cell? ⟨g, q * 5 + 1, none⟩ = some (.int .i64 yl.f1) := HEL.out.1 1 _ rfl
          have hfHEL1 : wr.frozen? ⟨g, q * 5 + 1, none⟩ = false := HEL.out.2 1
          have hHEL2 : wr.cell? ⟨g, q * 5 + 2, none⟩ = some (.int .i64 yl.f2.f0) := HEL.out.1 2 _ rfl
          have hfHEL2 : wr.frozen? ⟨g, q * 5 + 2, none⟩ = false := HEL.out.2 2
          have hHEL3 : wr.cell? ⟨g, q * 5 + 3, none⟩ = some (.int .i64 yl.f2.f1) := HEL.out.1 3 _ rfl
          have hfHEL3 : wr.frozen? ⟨g, q * 5 + 3, none⟩ = false := HEL.out.2 3
          have hHEL4 : wr.cell? ⟨g, q * 5 + 4, none⟩ = some (.int .i64 yl.f2.f2) := HEL.out.1 4 _ rfl
          have hfHEL4 : wr.frozen? ⟨g, q * 5 + 4, none⟩ = false := HEL.out.2 4
          have hii0 : (0 : Int) ≤ (i : Int) := by omega
          have hii1 : (i : Int) < (m : Int) := by omega
          have hqq0 : (0 : Int) ≤ (q : Int) := by omega
          have hqq1 : (q : Int) < (m : Int) := by omega
          have hne1 : qb ≠ g := fun e => Kd.R_ne HR.out HQ.out (by decide) (by rw [e]; rfl)
          have hne2 : g ≠ qb := fun e => hne1 e.symm
          go_region
          clear hcq2 hne2 hii0 hii1 hqq0 hqq1 hHEI0 hfHEI0 hHEI1 hfHEI1 hHEI2 hfHEI2 hHEI3 hfHEI3 hHEI4 hfHEI4 hHEL0 hfHEL0 hHEL1 hfHEL1 hHEL2 hfHEL2 hHEL3 hfHEL3 hHEL4 hfHEL4
          have HSW : Aside0 (Kd.R k63 63 ((((((((((wr.setCell ⟨g, q * 5, none⟩ (.int .i64 yi.f0)).setCell ⟨g, q * 5 + 1, none⟩ (.int .i64 yi.f1)).setCell ⟨g, q * 5 + 2, none⟩ (.int .i64 yi.f2.f0)).setCell ⟨g, q * 5 + 3, none⟩ (.int .i64 yi.f2.f1)).setCell ⟨g, q * 5 + 4, none⟩ (.int .i64 yi.f2.f2)).setCell ⟨g, i * 5, none⟩ (.int .i64 yl.f0)).setCell ⟨g, i * 5 + 1, none⟩ (.int .i64 yl.f1)).setCell ⟨g, i * 5 + 2, none⟩ (.int .i64 yl.f2.f0)).setCell ⟨g, i * 5 + 3, none⟩ (.int .i64 yl.f2.f1)).setCell ⟨g, i * 5 + 4, none⟩ (.int .i64 yl.f2.f2)) 0 F (.slice (some ⟨g, 0, none⟩) m cap) (swp xs q i) ∧ wr.grownBy ((((((((((wr.setCell ⟨g, q * 5, none⟩ (.int .i64 yi.f0)).setCell ⟨g, q * 5 + 1, none⟩ (.int .i64 yi.f1)).setCell ⟨g, q * 5 + 2, none⟩ (.int .i64 yi.f2.f0)).setCell ⟨g, q * 5 + 3, none⟩ (.int .i64 yi.f2.f1)).setCell ⟨g, q * 5 + 4, none⟩ (.int .i64 yi.f2.f2)).setCell ⟨g, i * 5, none⟩ (.int .i64 yl.f0)).setCell ⟨g, i * 5 + 1, none⟩ (.int .i64 yl.f1)).setCell ⟨g, i * 5 + 2, none⟩ (.int .i64 yl.f2.f0)).setCell ⟨g, i * 5 + 3, none⟩ (.int .i64 yl.f2.f1)).setCell ⟨g, i * 5 + 4, none⟩ (.int .i64 yl.f2.f2)) (some g)) := ⟨swap_R HR.out q i (by omega) (by omega) HXyl.out HXyi.out⟩
          generalize ((((((((((wr.setCell ⟨g, q * 5, none⟩ (.int .i64 yi.f0)).setCell ⟨g, q * 5 + 1, none⟩ (.int .i64 yi.f1)).setCell ⟨g, q * 5 + 2, none⟩ (.int .i64 yi.f2.f0)).setCell ⟨g, q * 5 + 3, none⟩ (.int .i64 yi.f2.f1)).setCell ⟨g, q * 5 + 4, none⟩ (.int .i64 yi.f2.f2)).setCell ⟨g, i * 5, none⟩ (.int .i64 yl.f0)).setCell ⟨g, i * 5 + 1, none⟩ (.int .i64 yl.f1)).setCell ⟨g, i * 5 + 2, none⟩ (.int .i64 yl.f2.f0)).setCell ⟨g, i * 5 + 3, none⟩ (.int .i64 yl.f2.f1)).setCell ⟨g, i * 5 + 4, none⟩ (.int .i64 yl.f2.f2)) = w7 at HSW ⊢
          have n0_ : Aside0 (QB w7.drew qb mb vs (.slice (some ⟨g, 0, none⟩) m cap)) := ⟨(show QB w7 qb mb vs (.slice (some ⟨g, 0, none⟩) m cap) from blk_grown (w := wr) (w1 := w7) HQ.out HSW.out.2 (fun e => hne1 (Option.some.inj e)))⟩
          have n1_ : Aside0 (Kd.R k63 63 w7.drew 0 F (.slice (some ⟨g, 0, none⟩) m cap) (swp xs q i)) := ⟨Kd.R_drew HSW.out.1⟩
          have n2_ : Aside0 (Kp w w7.drew (fun k => k = qb ∨ k = g)) := ⟨Kp.drew (Kp.then_ HK.out (Kp.of_grown (S := fun k => k = g) HSW.out.2 (fun k hk => (Option.some.inj hk).symm)) (fun k hk => .inl (.inr hk)))⟩
          clear HQ HR HK HSW HEI HEL hne1
          have HQ := n0_
          have HR := n1_
          have HK := n2_
          clear n0_ n1_ n2_
          generalize w7.drew = w8 at HQ HR HK ⊢
          go_wp2
          go_roundw
          case measure => simp [intOf]; omega
          case rel => exact ⟨q, swp xs q i, rfl, ⟨.inl hqb2, by rw [swp_length]; exact HI.out.2⟩, HQ, HR, HK, ⟨by obtain ⟨f, hf, h⟩ := HU.out; cases f with | zero => exact absurd hf (Nat.not_lt_zero _) | succ f => unfold downH at h; rw [if_neg (by rw [← HQL.out]; omega), ← HQL.out] at h; exact ⟨f, by rw [swp_length, HI.out.2] at *; omega, h⟩⟩⟩
end Go.Proofs.Ytgkbcgmcpbbneaa.Q
