/- lex.next and lex.Scan: the plain scan; able; same; no program here. -/
import Derived.Test.YtceldhkfidmfkaaDoorLx15
import Derived.Test.YtceldhkfidmfkaaDoorLx5
import Derived.Test.YtceldhkfidmfkaaDoorLx14
import Derived.Test.YtceldhkfidmfkaaDoorEv1b
namespace Go.Proofs.YtceldhkfidmfkaaDoor.L
open Go Go.RowKit Go.Proofs.YtceldhkfidmfkaaDoorW.PrintWords Go.Proofs.YtceldhkfidmfkaaDoorW.PrintLast Go.Proofs.YtceldhkfidmfkaaDoorW.PrintMore
open Go.Proofs.YtceldhkfidmfkaaDoor.Plain
set_option linter.unusedSimpArgs false
set_option linter.unusedVariables false

/-- What lex.next answers, where it matters. -/
def NxIs (g : Nat → Option (Int × ByteArray × Int × Int × Int)) : Nx → Prop
  | .tok kd t n => Ev g (kd, ⟨t.toArray⟩, 0, (n : Int), 0)
  | .err e off => ∃ a b z, Ev g (a, b, z, (off : Int), e)
theorem finN_is (s : ByteArray) (kd : Int) (n : Nat) (hn : n ≤ s.size) : NxIs (fun _ => finN s kd (n : Int)) (tokN kd s.data.toList n) := by
  unfold finN tokN
  by_cases h : n = 0
  · subst h
    rw [if_pos rfl]
    exact ⟨0, ⟨#[]⟩, 0, Ev.congr (fun _ => by rw [if_pos (show ((0 : Nat) : Int) = 0 from rfl)]; rfl) (Ev.now _)⟩
  · rw [if_neg h]
    refine Ev.congr (f := fun _ => some (kd, ⟨(s.data.toList.take n).toArray⟩, 0, (n : Int), 0)) (fun _ => ?_) (Ev.now _)
    rw [if_neg (by omega), if_pos (by omega), if_pos (by omega)]
    have := ext_list s 0 n
    rw [Nat.zero_add] at this
    rw [show ((n : Int)).toNat = n by omega]
    rw [show s.extract 0 n = ⟨(s.data.toList.take n).toArray⟩ from ByteArray.ext (by rw [← Array.toList_inj]; exact this)]
theorem NxIs.congr {g f : Nat → Option (Int × ByteArray × Int × Int × Int)} (h : ∀ k, g k = f k) {x : Nx} (hf : NxIs f x) : NxIs g x := by
  have : g = f := funext h
  rw [this]; exact hf
theorem NxIs.bind {α : Type} {g : Nat → Option α} {a : α} {f : α → Option (Int × ByteArray × Int × Int × Int)} (h : Ev g a) {x : Nx} (hf : NxIs (fun _ => f a) x) : NxIs (fun k => (g k).bind f) x := by
  cases x with
  | tok kd t n => exact Ev.bind (f := fun _ => f) h hf
  | err e off =>
    obtain ⟨a', b, z, hf⟩ := hf
    exact ⟨a', b, z, Ev.bind (f := fun _ => f) h hf⟩
theorem single_ix (c : UInt8) : (0 ≤ Lib.indexByte singleL ((c.toNat : Int)).toNat.toUInt8) ↔ single (c.toNat : Int) = true := by
  have e : ((c.toNat : Int)).toNat.toUInt8 = c := Lib.byte_back c
  rw [e]
  unfold single
  rw [List.any_eq_true]
  constructor
  · intro h
    obtain ⟨i, hi⟩ : ∃ i : Nat, Lib.indexByte singleL c = (i : Int) := ⟨_, (Int.toNat_of_nonneg h).symm⟩
    have := (Lib.indexByte_some hi).1
    exact ⟨c, List.mem_of_getElem? this, by simp⟩
  · rintro ⟨b, hb, hbc⟩
    have hbc' : b = c := by
      have : (b.toNat : Int) = (c.toNat : Int) := of_decide_eq_true hbc
      exact UInt8.toNat_inj.mp (by omega)
    subst hbc'
    have hge := Lib.indexByte_ge singleL b
    refine Decidable.byContradiction fun hn => ?_
    have h1 : Lib.indexByte singleL b = -1 := by omega
    obtain ⟨k, hk, hkb⟩ := List.getElem_of_mem hb
    exact Lib.indexByte_none h1 k (by show singlesL[k]? = _; rw [List.getElem?_eq_getElem hk, hkb])
theorem pairs_len (l : List UInt8) : (fstB l pairsB).size = begL l pairsL := fstB_size l pairsB
theorem faults_len (l : List UInt8) : (fstB l faultsB).size = begL l faultsL := fstB_size l faultsB

theorem lexNext (s : ByteArray) (hs : s.size ≤ 1024) {c : UInt8} {r : List UInt8} (hl : s.data.toList = c :: r) : NxIs (fun k => lex_next.f k s) (nextS (c :: r)) := by
  have hsz : s.size = r.length + 1 := by have := congrArg List.length hl; simpa using this
  have hb : bt s 0 = (c.toNat : Int) := by
    obtain ⟨c', hc', hb⟩ := dr_cons (s := s) (i := 0) (by omega) (by omega)
    have : dr s 0 = c :: r := hl
    rw [this] at hc'
    injection hc' with e1 e2
    rw [hb, e1]
  refine NxIs.congr (f := fun k => nextC k s (c.toNat : Int)) (fun k => ?_) ?_
  · unfold lex_next.f
    rw [if_pos (by omega), if_pos (by omega), hb]
  unfold nextC
  simp only [nextS]
  cases h1 : dg (c.toNat : Int) with
  | true =>
    simp only [if_true]
    rw [hl]
    have := finN_is s 1 (numL (c :: r)) (by have := numL_le (c :: r); simp at this; omega)
    rw [hl] at this
    exact this
  | false =>
    simp only [Bool.false_eq_true, if_false]
    by_cases h2 : (c.toNat : Int) = 34
    · simp only [if_pos h2]
      have hq := quoted_f s hs (by omega) (by rw [hl, c34.mp h2]; rfl)
      refine NxIs.bind hq ?_
      unfold quR
      rw [hl, List.drop_one, List.tail_cons]
      cases hqt : qTok r with
      | tok kd t n =>
        obtain ⟨_, _, _, rfl, _, _⟩ := qTok_tok hqt
        exact Ev.now _
      | err e off => exact ⟨_, _, _, Ev.now _⟩
    · simp only [if_neg h2]
      cases h3 : (lt (c.toNat : Int) || decide ((c.toNat : Int) = 36)) with
      | true =>
        simp only [if_true]
        rw [hl]
        have := finN_is s 3 (runL wd (c :: r)) (by have := runL_le wd (c :: r); simp at this; omega)
        rw [hl] at this
        exact this
      | false =>
        simp only [Bool.false_eq_true, if_false]
        by_cases h4 : (c.toNat : Int) = 35
        · simp only [if_pos h4]
          refine NxIs.bind (lex_begins_f s faultsB (by decide)) ?_
          rw [faults_len, hl]
          have := finN_is s 4 (begL (c :: r) faultsL) (by have := begL_le' (c :: r) faultsL; simp at this; omega)
          rw [hl] at this
          exact this
        · simp only [if_neg h4]
          refine NxIs.bind (lex_begins_f s pairsB (by decide)) ?_
          rw [pairs_len, hl]
          have hm := finN_is s 5 (markL (c.toNat : Int) (c :: r)) (by have := markL_le' (c := (c.toNat : Int)) (l := c :: r) (by simp); simp at this; omega)
          rw [hl] at hm
          unfold markL at hm ⊢
          by_cases h5 : begL (c :: r) pairsL = 0
          · rw [if_pos h5] at hm ⊢
            have : ((begL (c :: r) pairsL : Nat) : Int) = 0 := by omega
            rw [if_pos this]
            by_cases h6 : single (c.toNat : Int) = true
            · rw [if_pos h6] at hm ⊢
              rw [if_pos ((single_ix c).mpr h6)]
              exact hm
            · rw [if_neg h6] at hm ⊢
              rw [if_neg (fun h => h6 ((single_ix c).mp h))]
              exact hm
          · rw [if_neg h5] at hm ⊢
            rw [if_neg (by omega)]
            exact hm

theorem lexScan (s : ByteArray) (hs : s.size ≤ 1024) {p : Nat} {l : List UInt8} {res : Res} (h : Sc p l res) : ∀ acc : List S31, dr s (p : Int) = l → p ≤ s.size → acc.length ≤ p →
    Ev (fun k => lex_Scan.l0 k s acc (p : Int)) (outR acc res) := by
  induction h with
  | @nil p =>
    intro acc hl hp ha
    have hn : ¬ (p : Int) < (s.size : Int) := by
      have := dr_len s (p : Int); rw [hl] at this; simp at this; omega
    refine Ev.step (f := fun _ => some (acc, 0, 0)) (fun k => by simp only [lex_Scan.l0]; rw [if_neg hn]) ?_
    simpa [outR] using Ev.now (acc, (0 : Int), (0 : Int))
  | @blank p c r res hc _ ih =>
    intro acc hl hp ha
    have hlen : p < s.size := by have := dr_len s (p : Int); rw [hl] at this; simp at this; omega
    obtain ⟨c', hc', hb⟩ := dr_cons (s := s) (i := (p : Int)) (by omega) (by omega)
    rw [hl] at hc'
    injection hc' with e1 e2
    subst e1
    refine Ev.step (f := fun k => lex_Scan.l0 k s acc ((p + 1 : Nat) : Int)) (fun k => ?_) (ih acc (by rw [e2]; rfl) (by omega) (by omega))
    simp only [lex_Scan.l0]
    rw [if_pos (by omega), if_pos (by omega), hb, if_pos (c32.mpr hc), w64 (x := (p : Int) + 1) (by omega) (by omega)]
    rfl
  | @tok p c r t kd n res hc hn _ ih =>
    intro acc hl hp ha
    have hlen : p < s.size := by have := dr_len s (p : Int); rw [hl] at this; simp at this; omega
    obtain ⟨c', hc', hb⟩ := dr_cons (s := s) (i := (p : Int)) (by omega) (by omega)
    have hk := nextS_tok hn
    have hln : (c :: r).length = s.size - p := by rw [← hl]; exact dr_len s (p : Int)
    have hext : (s.extract ((p : Int)).toNat s.size).data.toList = c :: r := by rw [Lib.extract_to_end]; exact hl
    rw [hl] at hc'
    injection hc' with e1 e2
    subst e1
    have hnx := lexNext (s.extract ((p : Int)).toNat s.size) (by rw [ByteArray.size_extract]; omega) hext
    rw [hn] at hnx
    refine Ev.step (f := fun k => (lex_next.f k (s.extract ((p : Int)).toNat s.size)).bind fun bt187 => (if bt187.2.2.2.2 = 0 then (if acc.length < 4398046511104 then (lex_Scan.l0 k s (acc ++ [(⟨bt187.1, bt187.2.1, (p : Int)⟩ : S31)]) (wrap64 ((p : Int) + bt187.2.2.2.1))) else (none)) else (some (([] : List (S31)), bt187.2.2.2.2, wrap64 ((p : Int) + bt187.2.2.2.1))))) (fun k => ?_) ?_
    · simp only [lex_Scan.l0]
      rw [if_pos (by omega), if_pos (by omega), hb, if_neg (fun h => hc (c32.mp h)), if_pos (by omega)]
    · have hnx' : Ev (fun k => lex_next.f k (s.extract ((p : Int)).toNat s.size)) (kd, ⟨t.toArray⟩, 0, (n : Int), 0) := hnx
      refine Ev.bind hnx' ?_
      rw [outR_put]
      refine Ev.congr (f := fun k => lex_Scan.l0 k s (acc ++ [toS (kd, t, p)]) ((p + n : Nat) : Int)) (fun k => ?_) (ih _ (by rw [← dr_drop, hl]) (by omega) (by simp; omega))
      simp only [if_true]
      rw [if_pos (by omega), w64 (x := (p : Int) + (n : Int)) (by omega) (by omega)]
      rfl
  | @err p c r e off hc hn =>
    intro acc hl hp ha
    have hlen : p < s.size := by have := dr_len s (p : Int); rw [hl] at this; simp at this; omega
    obtain ⟨c', hc', hb⟩ := dr_cons (s := s) (i := (p : Int)) (by omega) (by omega)
    have hln : (c :: r).length = s.size - p := by rw [← hl]; exact dr_len s (p : Int)
    have hext : (s.extract ((p : Int)).toNat s.size).data.toList = c :: r := by rw [Lib.extract_to_end]; exact hl
    rw [hl] at hc'
    injection hc' with e1 e2
    subst e1
    have hnx := lexNext (s.extract ((p : Int)).toNat s.size) (by rw [ByteArray.size_extract]; omega) hext
    rw [hn] at hnx
    obtain ⟨a, b, z, hnx⟩ := hnx
    have hoff : off ≤ r.length := nextS_off hn
    refine Ev.step (f := fun k => (lex_next.f k (s.extract ((p : Int)).toNat s.size)).bind fun bt187 => (if bt187.2.2.2.2 = 0 then (if acc.length < 4398046511104 then (lex_Scan.l0 k s (acc ++ [(⟨bt187.1, bt187.2.1, (p : Int)⟩ : S31)]) (wrap64 ((p : Int) + bt187.2.2.2.1))) else (none)) else (some (([] : List (S31)), bt187.2.2.2.2, wrap64 ((p : Int) + bt187.2.2.2.1))))) (fun k => ?_) ?_
    · simp only [lex_Scan.l0]
      rw [if_pos (by omega), if_pos (by omega), hb, if_neg (fun h => hc (c32.mp h)), if_pos (by omega)]
    · refine Ev.bind (a := (a, b, z, (off : Int), e)) hnx ?_
      refine Ev.congr (f := fun _ => some (outR acc (.err e (p + off)))) (fun k => ?_) (Ev.now _)
      simp only [List.length_cons] at hln
      dsimp only
      rw [if_neg (nextS_e hn), w64 (x := (p : Int) + (off : Int)) (by omega) (by omega)]
      rfl
theorem lexScan_f (s : ByteArray) (hs : s.size ≤ 1024) {res : Res} (h : Sc 0 s.data.toList res) : Ev (fun k => lex_Scan.f k s) (outR [] res) :=
  Ev.congr (f := fun k => lex_Scan.l0 k s [] ((0 : Nat) : Int)) (fun k => by unfold lex_Scan.f; rw [if_neg (by omega)]; rfl) (lexScan s hs h [] (dr_zero s) (by omega) (by simp))
theorem lexScan_long (s : ByteArray) (hs : ¬ s.size ≤ 1024) : Ev (fun k => lex_Scan.f k s) ([], 2, 0) :=
  Ev.congr (f := fun _ => some ([], 2, 0)) (fun k => by unfold lex_Scan.f; rw [if_pos (by omega)]) (Ev.now _)

/-! ### lex.Text -/
theorem lexText_f (l : List S31) (h : textOk l = true) : lex_Text.f l = some ⟨(textFrom true l).toArray⟩ := by unfold lex_Text.f; rw [if_pos h]

/-! ### able -/
theorem able_sc : Sc 0 [65, 49, 43, 34, 120, 34] (.ok [(3, [65, 49], 0), (5, [43], 2), (2, [120], 3)]) :=
  Sc.tok (res := .ok [(5, [43], 2), (2, [120], 3)]) (kd := 3) (t := [65, 49]) (n := 2) (by decide) rfl
    (Sc.tok (res := .ok [(2, [120], 3)]) (kd := 5) (t := [43]) (n := 1) (by decide) rfl
      (Sc.tok (res := .ok []) (kd := 2) (t := [120]) (n := 3) (by decide) rfl Sc.nil))
theorem able_ev : Ev (fun k => whittlelaw4_able.f k) true := by
  have h := lexScan_f ⟨#[65, 49, 43, 34, 120, 34]⟩ (by decide) able_sc
  refine Ev.bind h ?_
  refine Ev.congr (f := fun _ => some true) (fun k => ?_) (Ev.now _)
  have ht := lexText_f [toS (3, [65, 49], 0), toS (5, [43], 2), toS (2, [120], 3)] (by decide)
  have e : outR [] (.ok [(3, [65, 49], 0), (5, [43], 2), (2, [120], 3)]) = ([toS (3, [65, 49], 0), toS (5, [43], 2), toS (2, [120], 3)], 0, 0) := rfl
  rw [e]
  simp only [ht, toList_data]
  decide

/-! ### same -/
theorem same_ev (l : List S31) (hl : l.length ≤ 4611686018427387904) (d : Nat) : ∀ j : Nat, j + d = l.length → Ev (fun k => whittlelaw4_same.l0 k l l (j : Int)) true := by
  induction d with
  | zero =>
    intro j hj
    exact Ev.step (f := fun _ => some true) (fun k => by simp only [whittlelaw4_same.l0]; rw [if_neg (by omega)]) (Ev.now _)
  | succ d ih =>
    intro j hj
    refine Ev.step (f := fun k => whittlelaw4_same.l0 k l l ((j + 1 : Nat) : Int)) (fun k => ?_) (ih (j + 1) (by omega))
    simp only [whittlelaw4_same.l0]
    rw [if_pos (by omega), if_pos (by omega), if_pos (by omega), if_neg (by simp), w64 (x := (j : Int) + 1) (by omega) (by omega)]
    rfl
theorem same_f (l : List S31) (hl : l.length ≤ 4611686018427387904) : Ev (fun k => whittlelaw4_same.f k l l) true :=
  Ev.congr (f := fun k => whittlelaw4_same.l0 k l l ((0 : Nat) : Int)) (fun k => by unfold whittlelaw4_same.f; rw [if_pos rfl]; rfl) (same_ev l hl l.length 0 (by omega))
end Go.Proofs.YtceldhkfidmfkaaDoor.L
