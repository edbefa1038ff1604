/- What the cards of this seat share: a script, and areas, that come in. -/
import Derived.Test.YtgkbcgmcpbbneaaRows
import Derived.Test.YtgkbcgmcpbbneaaPlb
import Derived.WalkKit
import Derived.ProofKit
import Derived.OpenShut
import Derived.Deep.DeepHandedRow
import Derived.Deep.Slices
import Derived.Deep.Fields
import Derived.ChangeSame
import Derived.Carry
import Derived.HandedShaped
import Derived.Lay
namespace Go.Proofs.Ytgkbcgmcpbbneaa.Q
open Go Go.ChangeMaps Go.ChangeShapes Go.WideShapes Go.ChangeAt Go.RowKit Go.Proofs.YtgkbcgmcpbbneaaW.PrintWords
set_option maxRecDepth 100000
theorem own : ownKnob Try.prog.godebug = none := by kernel_rfl
theorem take_one {cs : List Value} {k : Nat} {v : Value} (h : (cs.drop k).take 1 = [v]) : cs[k]? = some v := by
  have := congrArg (·[0]?) h
  simpa [List.getElem?_take, List.getElem?_drop] using this
theorem take_at {cs : List Value} {k n j : Nat} {v : Value} (h : ((cs.drop k).take n)[j]? = some v) : cs[k + j]? = some v := by
  rw [List.getElem?_take] at h
  split at h
  · rwa [List.getElem?_drop] at h
  · cases h
theorem weightsAll_mem {H : Type} {P : Program} {e : TypeId} {d : DataW H} {n : Nat} (hn : n ∈ d.weights P e) : ∀ {l : List (DataW H)}, d ∈ l → n ∈ DataW.weightsAll P e l
  | u :: l, h => by
    simp only [DataW.weightsAll, List.mem_append]
    rcases List.mem_cons.mp h with rfl | h
    · exact .inl hn
    · exact .inr (weightsAll_mem hn h)
theorem c43 : Try.prog.cellsOf 43 = 6 := by kernel_rfl
theorem c46 : Try.prog.cellsOf 46 = 5 := by kernel_rfl
theorem c30 : Try.prog.cellsOf 30 = 3 := by kernel_rfl
theorem c39 : Try.prog.cellsOf 39 = 1 := by kernel_rfl
theorem c3 : Try.prog.cellsOf 3 = 1 := by kernel_rfl
section
variable {H : Type} {enc : TypeId × Value → H} {W : World} {fuel : Nat}
theorem cell_of {cs : List Value} {x : DataW H × List MemPlace} (h : DataW.trod enc Try.prog W 0 (fun _ => true) true fuel 30 cs = some x) : ∃ c : S30, cs[0]? = some (.int .i64 c.f0) ∧ cs[1]? = some (.int .i64 c.f1) ∧ cs[2]? = some (.int .i64 c.f2) ∧ Wc c := by
  obtain ⟨xs, n', _, hxe, _, hxl, hg⟩ := DataW.trod_struct Try.underlying30 h
  have g0 := hg 0 _ rfl
  have g1 := hg 1 _ rfl
  have g2 := hg 2 _ rfl
  have hx3 : xs.length = 3 := hxl
  match xs, hx3 with
  | [x0, x1, x2], _ =>
    obtain ⟨n0, e0, _, w0⟩ := DataW.trod_int Try.underlying3 g0
    obtain ⟨n1, e1, _, w1⟩ := DataW.trod_int Try.underlying3 g1
    obtain ⟨n2, e2, _, w2⟩ := DataW.trod_int Try.underlying3 g2
    have e0' : (cs.drop 0).take (Try.prog.cellsOf 3) = [.int .i64 n0] := e0
    have e1' : (cs.drop 1).take (Try.prog.cellsOf 3) = [.int .i64 n1] := e1
    have e2' : (cs.drop 2).take (Try.prog.cellsOf 3) = [.int .i64 n2] := e2
    rw [c3] at e0' e1' e2'
    exact ⟨⟨n0, n1, n2⟩, take_one e0', take_one e1', take_one e2', w0, w1, w2⟩
theorem area_of {cs : List Value} {x : DataW H × List MemPlace} (h : DataW.trod enc Try.prog W 0 (fun _ => true) true fuel 46 cs = some x) : ∃ c : S46, cs[0]? = some (.int .i64 c.f0) ∧ cs[1]? = some (.int .i64 c.f1) ∧ cs[2]? = some (.int .i64 c.f2) ∧ cs[3]? = some (.int .i64 c.f3) ∧ cs[4]? = some (.int .i64 c.f4) := by
  obtain ⟨xs, n', _, hxe, _, hxl, hg⟩ := DataW.trod_struct Try.underlying46 h
  have g0 := hg 0 _ rfl
  have g1 := hg 1 _ rfl
  have g2 := hg 2 _ rfl
  have g3 := hg 3 _ rfl
  have g4 := hg 4 _ rfl
  have hx3 : xs.length = 5 := hxl
  match xs, hx3 with
  | [x0, x1, x2, x3, x4], _ =>
    obtain ⟨n0, e0, _, w0⟩ := DataW.trod_int Try.underlying3 g0
    obtain ⟨n1, e1, _, w1⟩ := DataW.trod_int Try.underlying3 g1
    obtain ⟨n2, e2, _, w2⟩ := DataW.trod_int Try.underlying3 g2
    obtain ⟨n3, e3, _, w3⟩ := DataW.trod_int Try.underlying3 g3
    obtain ⟨n4, e4, _, w4⟩ := DataW.trod_int Try.underlying3 g4
    have e0' : (cs.drop 0).take (Try.prog.cellsOf 3) = [.int .i64 n0] := e0
    have e1' : (cs.drop 1).take (Try.prog.cellsOf 3) = [.int .i64 n1] := e1
    have e2' : (cs.drop 2).take (Try.prog.cellsOf 3) = [.int .i64 n2] := e2
    have e3' : (cs.drop 3).take (Try.prog.cellsOf 3) = [.int .i64 n3] := e3
    have e4' : (cs.drop 4).take (Try.prog.cellsOf 3) = [.int .i64 n4] := e4
    rw [c3] at e0' e1' e2' e3' e4'
    exact ⟨⟨n0, n1, n2, n3, n4⟩, take_one e0', take_one e1', take_one e2', take_one e3', take_one e4'⟩
/-- A list that stands for a row read at every index. -/
theorem gen_list {α : Type} {P : Nat → α → Prop} (len : Nat) (h : ∀ i, i < len → ∃ x, P i x) : ∃ l : List α, l.length = len ∧ ∀ i (h : i < l.length), P i l[i] := by
  induction len with
  | zero => exact ⟨[], rfl, fun i h => absurd h (Nat.not_lt_zero _)⟩
  | succ n ih =>
    obtain ⟨l, hl1, hl2⟩ := ih (fun i hi => h i (by omega))
    obtain ⟨x, hx⟩ := h n (by omega)
    refine ⟨l ++ [x], by simp [hl1], fun i h => ?_⟩
    by_cases hin : i < l.length
    · rw [List.getElem_append_left hin]
      exact hl2 i hin
    · have hi2 : i = n := by simp at h; omega
      rw [List.getElem_append_right (by omega)]
      subst hi2
      simpa [hl1] using hx
theorem areas_of {cs : List Value} {x : DataW H × List MemPlace} (h : DataW.trod enc Try.prog W 0 (fun _ => true) true fuel 39 cs = some x) (hw : ∀ n, n ∈ x.1.weights Try.prog 39 → n ≤ reachBytes) :
    ∃ (A : Option Addr) (n c : Nat) (l : List S46), cs = [.slice A n c] ∧ l.length = n ∧ n ≤ c ∧ n ≤ reachBytes ∧ Kd.C k46 W A n l := by
  rcases Deep.open_slice Try.underlying39 h with ⟨hcs, _⟩ | ⟨a, len, cap, m, n, D, Pl, hcs, hb, hl, hm, hmm, hx, hi⟩
  · exact ⟨none, 0, 0, [], hcs, rfl, Nat.le_refl _, Nat.zero_le _, Kd.C_nil _ _⟩
  · have hmc : m = cap := by simpa using hmm
    have hbytes : Try.prog.bytesOf 46 = 40 := by kernel_rfl
    have hwd : ∀ n, n ∈ ((len + (m - len)) * 40 :: (DataW.weightsAll Try.prog 46 ((List.range len).map D) ++ DataW.weightsAll Try.prog 46 ((List.range (m - len)).map fun j => D (len + j)))) → n ≤ reachBytes := by
      intro n hn
      apply hw
      rw [hx]
      simp only [DataW.weights, Try.underlying39, hbytes, List.length_map, List.length_range]
      exact hn
    have hlen1 := hwd _ List.mem_cons_self
    have hrb : reachBytes = 140737488351232 := rfl
    have hone : ∀ i, i < len → ∃ x : S46, W.cell? (a.add (i * 5 + 0)) = some (.int .i64 x.f0) ∧ W.cell? (a.add (i * 5 + 1)) = some (.int .i64 x.f1) ∧ W.cell? (a.add (i * 5 + 2)) = some (.int .i64 x.f2) ∧ W.cell? (a.add (i * 5 + 3)) = some (.int .i64 x.f3) ∧ W.cell? (a.add (i * 5 + 4)) = some (.int .i64 x.f4) := by
      intro i hil
      obtain ⟨cs', hc, ht'⟩ := hi i (by omega)
      rw [c46] at hc
      obtain ⟨c, g0, g1, g2, g3, g4⟩ := area_of ht'
      obtain ⟨_, hcl, hat⟩ := World.cells?_some hc
      have hadd : ∀ j, (a.add (i * 5)).add j = a.add (i * 5 + j) := fun j => Deep.add_add _ _ _
      refine ⟨c, ?_, ?_, ?_, ?_, ?_⟩
      · rw [← hadd, hat 0 (by omega)]; exact g0
      · rw [← hadd, hat 1 (by omega)]; exact g1
      · rw [← hadd, hat 2 (by omega)]; exact g2
      · rw [← hadd, hat 3 (by omega)]; exact g3
      · rw [← hadd, hat 4 (by omega)]; exact g4
    obtain ⟨l, hl1, hl2⟩ := gen_list len hone
    subst hl1
    refine ⟨some a, l.length, cap, l, hcs, rfl, hl, by omega, ⟨rfl, by omega, fun _ => ⟨a, rfl, fun j p hj => ?_⟩⟩⟩
    obtain ⟨hjl, rfl⟩ := List.getElem?_eq_some_iff.mp hj
    obtain ⟨h0, h1, h2, h3, h4⟩ := hl2 j hjl
    refine ⟨[.int .i64 l[j].f0, .int .i64 l[j].f1, .int .i64 l[j].f2, .int .i64 l[j].f3, .int .i64 l[j].f4], rfl, k46_mk W _, fun i u hu => ?_⟩
    match i, hu with
    | 0, hu => cases hu; exact h0
    | 1, hu => cases hu; exact h1
    | 2, hu => cases hu; exact h2
    | 3, hu => cases hu; exact h3
    | 4, hu => cases hu; exact h4
theorem script_of {A : Option Addr} {len cap : Nat} {d : DataW H} {p : List MemPlace} (k0 : DataW.Trod enc Try.prog W 0 (fun _ => true) true 22 (.slice A len cap) d p) (hw : ∀ n, n ∈ d.weights Try.prog 22 → n ≤ reachBytes) :
    ∃ l : List S43, l.length = len ∧ len ≤ cap ∧ Kd.C k43 W A l.length l ∧ NotHuge l ∧ ∀ a ∈ l, WfA a := by
  obtain ⟨fuel, hf⟩ := k0
  rcases Deep.open_slice Try.underlying22 hf with ⟨hcs, _⟩ | ⟨a, len', cap', m, n, D, Pl, hcs, hb, hl, hm, hmm, hx, hi⟩
  · simp [Value.cells] at hcs
    obtain ⟨rfl, rfl, rfl⟩ := hcs
    exact ⟨[], rfl, Nat.le_refl _, Kd.C_nil _ _, ⟨Nat.zero_le _, fun t h => by cases h⟩, fun t h => by cases h⟩
  · simp [Value.cells] at hcs
    obtain ⟨rfl, rfl, rfl⟩ := hcs
    have hmc : m = cap := by simpa using hmm
    obtain ⟨hd, _⟩ := Prod.mk.inj hx
    have hbytes : 0 < Try.prog.bytesOf 43 := by rw [show Try.prog.bytesOf 43 = 64 by kernel_rfl]; decide
    have hwd : ∀ n, n ∈ ((len + (m - len)) * Try.prog.bytesOf 43 :: (DataW.weightsAll Try.prog 43 ((List.range len).map D) ++ DataW.weightsAll Try.prog 43 ((List.range (m - len)).map fun j => D (len + j)))) → n ≤ reachBytes := by
      intro n hn
      apply hw
      rw [hd]
      simp only [DataW.weights, Try.underlying22, List.length_map, List.length_range]
      exact hn
    have hlen1 := hwd _ List.mem_cons_self
    have hlen2 : len ≤ reachBytes := Nat.le_trans (Nat.le_trans (Nat.le_add_right _ _) (Nat.le_mul_of_pos_right _ hbytes)) hlen1
    have hrb : reachBytes = 140737488351232 := rfl
    have hrb2 : Big = 140737488351232 := rfl
    have hone : ∀ i, i < len → ∃ x : S43, (W.cell? (a.add (i * 6 + 0)) = some (.int .i64 x.f0) ∧ W.cell? (a.add (i * 6 + 1)) = some (.int .i64 x.f1.f0) ∧ W.cell? (a.add (i * 6 + 2)) = some (.int .i64 x.f1.f1) ∧ W.cell? (a.add (i * 6 + 3)) = some (.int .i64 x.f1.f2) ∧ W.cell? (a.add (i * 6 + 4)) = some (.int .i64 x.f2) ∧
        ∃ A5 c5, W.cell? (a.add (i * 6 + 5)) = some (.slice A5 x.f3.length c5) ∧ x.f3.length ≤ c5 ∧ Kd.C k46 W A5 x.f3.length x.f3) ∧ x.f3.length ≤ Big ∧ WfA x := by
      intro i hil
      obtain ⟨cs', hc, ht'⟩ := hi i (by omega)
      rw [c43] at hc
      obtain ⟨xs, n', _, hxe, _, hxl, hg⟩ := DataW.trod_struct Try.underlying43 ht'
      obtain ⟨_, hcl, hat⟩ := World.cells?_some hc
      have hx3 : xs.length = 4 := hxl
      have g0 := hg 0 _ rfl
      have g1 := hg 1 _ rfl
      have g2 := hg 2 _ rfl
      have g3 := hg 3 _ rfl
      match xs, hx3 with
      | [x0, x1, x2, x3], _ =>
        obtain ⟨n0, e0, _, w0⟩ := DataW.trod_int Try.underlying3 g0
        obtain ⟨c, d0, d1, d2, wc⟩ := cell_of g1
        obtain ⟨n2, e2, _, w2⟩ := DataW.trod_int Try.underlying3 g2
        obtain ⟨A5, n5, c5, l5, e3, hl5, hlc5, hlb5, hC5⟩ := areas_of g3 (fun n hn => by
          obtain ⟨hDi, _⟩ := Prod.mk.inj hxe
          apply hwd
          refine List.mem_cons_of_mem _ (List.mem_append_left _ (weightsAll_mem (d := D i) ?_ (List.mem_map.mpr ⟨i, List.mem_range.mpr hil, rfl⟩)))
          rw [hDi]
          simp only [DataW.weights, Try.underlying43, List.map_cons, List.map_nil, DataW.weightsEach, List.mem_append]
          exact .inr (.inr (.inr (.inl hn))))
        have e0' : (cs'.drop 0).take (Try.prog.cellsOf 3) = [.int .i64 n0] := e0
        have e2' : (cs'.drop 4).take (Try.prog.cellsOf 3) = [.int .i64 n2] := e2
        have e3' : (cs'.drop 5).take (Try.prog.cellsOf 39) = [.slice A5 n5 c5] := e3
        rw [c3] at e0' e2'
        rw [c39] at e3'
        subst hl5
        have hadd : ∀ j, (a.add (i * 6)).add j = a.add (i * 6 + j) := fun j => Deep.add_add _ _ _
        refine ⟨⟨n0, c, n2, l5⟩, ⟨?_, ?_, ?_, ?_, ?_, A5, c5, ?_, hlc5, hC5⟩, hlb5, w0, wc, w2⟩
        · rw [← hadd, hat 0 (by omega)]; exact take_one e0'
        · rw [← hadd, hat 1 (by omega)]; exact take_at (k := 1) (j := 0) d0
        · rw [← hadd, hat 2 (by omega)]; exact take_at (k := 1) (j := 1) d1
        · rw [← hadd, hat 3 (by omega)]; exact take_at (k := 1) (j := 2) d2
        · rw [← hadd, hat 4 (by omega)]; exact take_one e2'
        · rw [← hadd, hat 5 (by omega)]; exact take_one e3'
    obtain ⟨l, hl1, hl2⟩ := gen_list len hone
    subst hl1
    refine ⟨l, rfl, hl, ⟨rfl, by omega, fun _ => ⟨a, rfl, fun j p hj => ?_⟩⟩, ⟨hlen2, fun x hx => ?_⟩, fun x hx => ?_⟩
    · obtain ⟨hjl, rfl⟩ := List.getElem?_eq_some_iff.mp hj
      obtain ⟨⟨h0, h1, h2, h3, h4, A5, c5, h5, hl5, hC5⟩, _⟩ := hl2 j hjl
      refine ⟨[.int .i64 l[j].f0, .int .i64 l[j].f1.f0, .int .i64 l[j].f1.f1, .int .i64 l[j].f1.f2, .int .i64 l[j].f2, .slice A5 l[j].f3.length c5], rfl, k43_mk W _ hl5 hC5, fun i u hu => ?_⟩
      match i, hu with
      | 0, hu => cases hu; exact h0
      | 1, hu => cases hu; exact h1
      | 2, hu => cases hu; exact h2
      | 3, hu => cases hu; exact h3
      | 4, hu => cases hu; exact h4
      | 5, hu => cases hu; exact h5
    · obtain ⟨i, hi3, rfl⟩ := List.getElem_of_mem hx
      exact (hl2 i hi3).2.1
    · obtain ⟨i, hi3, rfl⟩ := List.getElem_of_mem hx
      exact (hl2 i hi3).2.2
end
end Go.Proofs.Ytgkbcgmcpbbneaa.Q
