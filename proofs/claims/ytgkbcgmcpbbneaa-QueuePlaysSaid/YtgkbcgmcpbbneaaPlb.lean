/- What waits, in order (plain): of the first dropped, of other histories; the queue's calls in the forms that the laws want. -/
import Derived.Test.YtgkbcgmcpbbneaaAble
namespace Go.Proofs.Ytgkbcgmcpbbneaa.Q
open Go Go.RowKit Go.Maps Go.Proofs.YtgkbcgmcpbbneaaW.PrintWords
set_option maxRecDepth 100000
set_option linter.unusedVariables false
set_option linter.unusedSimpArgs false
theorem ents_keys (L : List Wt) (sn : List S46) : entsOf L sn = (L.map (·.1)).map (entryOf L sn) := by unfold entsOf; rw [List.map_map]; rfl
theorem ents_f2s (L : List Wt) (sn : List S46) : (entsOf L sn).map (·.f2) = L.map (·.1) := by unfold entsOf; rw [List.map_map]; rfl
theorem cellsOf_perm (L : List Wt) (sn : List S46) : (cellsOf L sn).Perm (L.map (·.1)) := by
  have := (sortS_perm (entsOf L sn)).map (·.f2)
  rwa [ents_f2s] at this
theorem cellsOf_length (L : List Wt) (sn : List S46) : (cellsOf L sn).length = L.length := by rw [(cellsOf_perm L sn).length_eq, List.length_map]
theorem cellsOf_nodup {L : List Wt} (h : Uniq L) (sn : List S46) : (cellsOf L sn).Nodup := (cellsOf_perm L sn).nodup_iff.2 h
theorem cellsOf_mem {L : List Wt} {sn : List S46} {c : S30} (h : c ∈ cellsOf L sn) : (look L c).isSome = true := look_isSome.2 ((cellsOf_perm L sn).mem_iff.1 h)
theorem cellsOf_wc {L : List Wt} (hw : WfL L) {sn : List S46} {c : S30} (h : c ∈ cellsOf L sn) : Wc c := by
  obtain ⟨p, hp, rfl⟩ := List.mem_map.1 ((cellsOf_perm L sn).mem_iff.1 h)
  exact (hw p hp).1
theorem cellsOf_ext {L L2 : List Wt} (h : Uniq L) (h2 : Uniq L2) (hl : ∀ c, look L c = look L2 c) (sn : List S46) : cellsOf L sn = cellsOf L2 sn := by
  have hk : (L.map (·.1)).Perm (L2.map (·.1)) := (List.perm_ext_iff_of_nodup h h2).2 (fun c => by rw [← look_isSome, ← look_isSome, hl])
  have he : entryOf L sn = entryOf L2 sn := funext (fun c => look_eq_entry (hl c))
  unfold cellsOf
  rw [ents_keys, ents_keys, he, sortS_of_perm (hk.map _)]
theorem cellsOf_drop {L : List Wt} (h : Uniq L) {sn : List S46} {c : S30} {t : List S30} (hc : cellsOf L sn = c :: t) : cellsOf (dropL L c) sn = t := by
  have hnd := cellsOf_nodup h sn
  rw [hc] at hnd
  unfold cellsOf at hc ⊢
  cases hs : sortS (entsOf L sn) with
  | nil => rw [hs] at hc; cases hc
  | cons x s =>
    rw [hs] at hc
    injection hc with hx ht
    have hp := sortS_perm (entsOf L sn)
    rw [hs] at hp
    have hpw := sorted_pw (entsOf L sn)
    rw [hs] at hpw
    have hent : entsOf (dropL L c) sn = (entsOf L sn).filter (fun y => !decide (y.f2 = c)) := by
      unfold entsOf
      rw [List.filter_map]
      unfold dropL
      show List.map (fun p => entryOf (dropL L c) sn p.1) (L.filter (fun p => !decide (p.1 = c))) = List.map (fun p => entryOf L sn p.1) (L.filter (fun p => !decide (p.1 = c)))
      refine List.map_congr_left (fun p hp => ?_)
      have hne : p.1 ≠ c := by simpa using (List.mem_filter.1 hp).2
      exact look_eq_entry (look_drop_other L hne)
    have hfil : ((x :: s).filter (fun y => !decide (y.f2 = c))) = s := by
      rw [List.filter_cons_of_neg (by simpa using hx)]
      refine List.filter_eq_self.2 (fun y hy => ?_)
      have : y.f2 ∈ t := by rw [← ht]; exact List.mem_map.2 ⟨y, hy, rfl⟩
      have hne : y.f2 ≠ c := fun e => (List.nodup_cons.1 hnd).1 (e ▸ this)
      simpa using hne
    have hperm : s.Perm (entsOf (dropL L c) sn) := by
      rw [hent, ← hfil]
      exact hp.filter _
    have : sortS (entsOf (dropL L c) sn) = s := eq_of_sorted _ _ (sorted_pw _) (List.pairwise_cons.1 hpw).2 ((sortS_perm _).trans hperm.symm)
    rw [this]
    exact ht
theorem dropL_some_len {L : List Wt} (h : Uniq L) {c : S30} (hs : (look L c).isSome = true) : (dropL L c).length + 1 = L.length := by
  have := dropL_length h c
  rwa [if_pos hs] at this
section
variable {w w' : World} {F : Nat → Prop} {N qb m : Nat} {L : List Wt} {sn : List S46}
theorem QS.drop_b (h : QS w F qb L sn m) (c : S30) (hc : Wc c) (b : Bool) (hb : (look L c).isSome = b) :
    Calls Try.prog 13 #[.pointer (some ⟨qb, 0, none⟩), .agg #[.int .i64 c.f0, .int .i64 c.f1, .int .i64 c.f2]] w fun e w' => e = .returned (.bool b) ∧ QS w' F qb (dropL L c) sn m ∧ Kp w w' F := by
  subst hb
  exact h.drop c hc
theorem QS.len_z (h : QS w F qb L sn m) (z : Int) (hz : (L.length : Int) = z) : Calls Try.prog 14 #[.pointer (some ⟨qb, 0, none⟩)] w fun e w' => e = .returned (.int .i64 z) ∧ w = w' := by
  subst hz
  exact h.len
end
theorem rd30 (xs : List S30) (i : Nat) (hi : i < xs.length) : rd_T30 xs (i : Int) = xs[i] := by
  unfold rd_T30
  rw [Int.toNat_natCast, List.getD_eq_getElem?_getD, List.getElem?_eq_getElem hi]; rfl
theorem el30 {w : World} {ad : Addr} {n : Nat} {xs : List S30} (h : Kd.C k30 w (some ad) n xs) {x : S30} (i : Int) (h0 : 0 ≤ i) (h1 : i < n) (hx : rd_T30 xs i = x) : w.cell? (ad.add (i.toNat * 3)) = some (.int .i64 x.f0) ∧ w.cell? ⟨(ad.add (i.toNat * 3)).block, (ad.add (i.toNat * 3)).off + 1, none⟩ = some (.int .i64 x.f1) ∧ w.cell? ⟨(ad.add (i.toNat * 3)).block, (ad.add (i.toNat * 3)).off + 2, none⟩ = some (.int .i64 x.f2) := by
  obtain ⟨ad2, e, g0, g1, g2⟩ := at_T30 h i h0 h1
  cases e
  rw [hx] at g0 g1 g2
  exact ⟨g0, g1, g2⟩
theorem headC_cons {L : List Wt} {sn : List S46} {c : S30} {t : List S30} (h : cellsOf L sn = c :: t) : headC (cellsOf L sn) = (c, true) := by rw [h]; rfl
theorem headC_nil {L : List Wt} {sn : List S46} (h : cellsOf L sn = []) : headC (cellsOf L sn) = (z30, false) := by rw [h]; rfl
end Go.Proofs.Ytgkbcgmcpbbneaa.Q
