/- slices.SortFunc at a row of entries of the call's own: the same row holds the entries in order. -/
import Derived.Test.YtgkbcgmcpbbneaaSrt
import Derived.Test.YtgkbcgmcpbbneaaPush
namespace Go.Proofs.Ytgkbcgmcpbbneaa.Q
open Go Go.RowKit Go.Shelf Go.Sort Go.Lib Go.Proofs Go.Proofs.YtgkbcgmcpbbneaaW.PrintWords Go.Proofs.YtgkbcgmcpbbneaaW.PrintMore
set_option maxRecDepth 100000
set_option linter.unusedVariables false
set_option linter.unusedSimpArgs false
instance : Inhabited S63 := ⟨z63⟩
def sortS (xs : List S63) : List S63 := xs.mergeSort (fun x y => !(ltOf ordE) y x)
theorem ltOf_ordE (x y : S63) : ltOf ordE x y = ltE x y := by
  unfold ltOf
  cases h : ltE x y with
  | true => exact decide_eq_true (ordE_neg.2 h)
  | false => exact decide_eq_false (fun e => by have := ordE_neg.1 e; rw [h] at this; cases this)
theorem swoE : SWO (ltOf ordE) where
  irrefl x := by rw [ltOf_ordE]; exact ltE_irr x
  trans x y z h1 h2 := by rw [ltOf_ordE] at *; exact ltE_trans h1 h2
  ntrans x y z h1 h2 := by
    rw [ltOf_ordE] at *
    cases hz : ltE x z with
    | false => rfl
    | true =>
      cases hyx : ltE y x with
      | true => have := ltE_trans hyx hz; rw [this] at h2; cases h2
      | false => have := ltE_tri h1 hyx; subst this; rw [hz] at h2; cases h2
theorem cmpLays28 (blk off size : Nat) (w : World) : CmpLays Try.prog 28 #[] ec 5 ordE blk off size w := fun m os dk _ x y =>
  (order_grow x y _).mono fun e w' ⟨he, os', hw⟩ => ⟨he, 0, os', hw⟩
theorem flat_get (ys : List S63) (j i : Nat) (hj : j < ys.length) (hi : i < 5) : (flatK ec 5 ys.toArray)[j * 5 + i]! = (ec (g63 ys j))[i]! := by
  rw [get_flatK _ _ _ _ (by rw [List.size_toArray]; omega), show (j * 5 + i) / 5 = j by omega, show (j * 5 + i) % 5 = i by omega]
  congr 2
  rw [getElem!_pos _ _ (by simpa using hj), g63_get _ _ hj]
  simp
theorem flat_size (ys : List S63) : (flatK ec 5 ys.toArray).size = ys.length * 5 := by simp
theorem ec_get (x : S63) (i : Nat) (hi : i < 5) : (ec x)[i]? = some ((ec x)[i]!) := by
  match i, hi with
  | 0, _ => rfl
  | 1, _ => rfl
  | 2, _ => rfl
  | 3, _ => rfl
  | 4, _ => rfl
theorem holds63 {w : World} {F : Nat → Prop} {g n cap : Nat} {xs : List S63} (hR : Kd.R k63 63 w 0 F (.slice (some ⟨g, 0, none⟩) n cap) xs) : HoldsK ec 5 w g 0 xs.toArray := by
  have hn := (Kd.R_reads' hR).1
  intro t ht
  rw [flat_size] at ht
  have hj : t / 5 < n := by omega
  obtain ⟨h1, h2⟩ := elem63 hR (t / 5) hj
  have he : t / 5 * 5 + t % 5 = t := by omega
  have h3 := h1 (t % 5) _ (ec_get _ _ (by omega))
  have h4 := h2 (t % 5)
  have h5 := flat_get xs (t / 5) (t % 5) (by omega) (by omega)
  rw [he] at h3 h4 h5
  rw [Nat.zero_add, h5]
  exact ⟨h3, h4⟩
theorem heap_put {w : World} {g n : Nat} {os : Array Obj} {cur : Array Value} {e : TypeId} {fr : Nat × Nat} (d : Array Value) (hb : w.heap[g]? = some (.cells cur e fr)) :
    (grow (putRow id (Sort.ahead w n) g 0 d) os).heap[g]? = some (.cells (putCells id 0 d cur) e fr) := by
  have hg : g < w.heap.size := (Array.getElem?_eq_some_iff.1 hb).1
  rw [heap_grow_old _ _ (by simpa using hg)]
  simp [putRow, mapBlock, Sort.ahead, Array.getElem?_modify, hb, onCells]
theorem kp_put {w : World} {g n : Nat} {os : Array Obj} (d : Array Value) : Kp w (grow (putRow id (Sort.ahead w n) g 0 d) os) (fun k => k = g) := by
  refine ⟨rfl, rfl, rfl, by simp, fun k hk hne => ?_⟩
  rw [heap_grow_old _ _ (by simpa using hk)]
  have : g ≠ k := fun e => hne e.symm
  simp [putRow, mapBlock, Sort.ahead, Array.getElem?_modify, this]
theorem take_put (cur d : Array Value) (h : d.size ≤ cur.size) : (putCells id 0 d cur).toList.take d.size = d.toList := by
  apply List.ext_getElem?
  intro j
  by_cases hj : j < d.size
  · rw [List.getElem?_take_of_lt hj, Array.getElem?_toList]
    simp [putCells, hj, show j < cur.size by omega]
  · rw [List.getElem?_take_eq_none (by omega), List.getElem?_eq_none (by simp; omega)]
theorem reps_flat (w : World) (base : Nat) (ok : Nat → Prop) (ys : List S63) : Reps (k63.M w base ok) 5 ys (flatK ec 5 ys.toArray).toList := by
  refine ⟨by rw [Array.length_toList, flat_size], fun j p hp => ?_⟩
  have hj : j < ys.length := (List.getElem?_eq_some_iff.1 hp).1
  have hpp : g63 ys j = p := by unfold g63; rw [List.getD_eq_getElem?_getD, hp]; rfl
  have he : ((flatK ec 5 ys.toArray).toList.drop (j * 5)).take 5 = ec p := by
    apply List.ext_getElem?
    intro i
    by_cases hi : i < 5
    · rw [List.getElem?_take_of_lt hi, List.getElem?_drop, ← hpp, ec_get _ _ hi, Array.getElem?_toList, ← flat_get ys j i hj hi]
      rw [getElem!_pos _ _ (by rw [flat_size]; omega)]
      exact Array.getElem?_eq_getElem _
    · rw [List.getElem?_take_eq_none (by omega), List.getElem?_eq_none (by simp; omega)]
  show k63.M w base ok p _
  rw [he]
  exact k63_mkM w base ok p
theorem sort_calls (w : World) (F : Nat → Prop) (g n cap : Nat) (xs : List S63) (hR : Kd.R k63 63 w 0 F (.slice (some ⟨g, 0, none⟩) n cap) xs) (hn : n ≤ 1000000) :
    Calls Try.prog 27 #[.slice (some ⟨g, 0, none⟩) n cap, .func (.func 28) #[] #[]] w fun e w' => e = .returned (.tuple #[]) ∧ Kd.R k63 63 w' 0 F (.slice (some ⟨g, 0, none⟩) n cap) (sortS xs) ∧ Kp w w' (fun k => k = g) := by
  have hl := (Kd.R_reads' hR).1
  obtain ⟨hok, inner, ⟨hin, hor⟩, hreps⟩ := id hR
  rcases hor with ⟨hv, _⟩ | ⟨g', cap', cur, hv, hb0, hb, h1, h2, h3, h4⟩
  · cases hv
  injection hv with ha _ hc
  injection ha with ha
  injection ha with hg
  subst hg; subst hc
  have eg : ∀ args w, (callFunc 28 args).run Try.prog w = .ok (.enter 28 args) w := enters_of Try.func28 (by kernel_rfl) rfl
  have hcon := AnyQ.slices_SortFunc_total sortE 5 Try.isAgg63 Try.sizeOf63 ec (fun _ => rfl) (fun x v hv => by simp [ec] at hv; rcases hv with rfl | rfl | rfl | rfl | rfl <;> rfl) ordE swoE 28 #[] g 0 cap xs.toArray w eg (cmpLays28 g 0 _ w) (holds63 hR) (blk_lt hb) (by rw [List.size_toArray]; omega) (fun x y h k => by rw [ltOf_ordE] at h k; exact ltE_tri h k)
  rw [List.size_toArray, ← hl] at hcon
  refine Calls.mono hcon fun e w' ⟨he, nn, os, hw⟩ => ⟨he, ?_⟩
  have hw' : w' = grow (putRow id (Sort.ahead w nn) g 0 (flatK ec 5 (sortS xs).toArray)) os := hw
  have hsl : (sortS xs).length = xs.length := List.length_mergeSort ..
  subst hw'
  refine ⟨⟨hok, (flatK ec 5 (sortS xs).toArray).toList, ⟨?_, .inr ⟨g, cap, _, ?_, Nat.zero_le _, heap_put _ hb, ?_, h2, ?_, ?_⟩⟩, reps_flat _ _ _ _⟩, kp_put _⟩
  · rw [Array.length_toList, flat_size]; rfl
  · rw [hsl, hl]
  · rw [hsl]; exact h1
  · simp [putCells, h3]
  · have := take_put cur (flatK ec 5 (sortS xs).toArray) (by rw [flat_size, hsl, h3]; exact Nat.mul_le_mul_right _ h1)
    rw [flat_size] at this
    exact this
end Go.Proofs.Ytgkbcgmcpbbneaa.Q
