/- PROVED: whittlelaw4.LexBlanks answers true for every text and every two numbers: blanks between two tokens, ahead of all and behind all, turn nothing but places. Conditions: those of the card (the listed package-level variables hold what the program's text lays). -/
import Derived.Test.YtceldhkfidmfkaaDoorLx20
import Derived.Test.YtceldhkfidmfkaaDoorAl
import Derived.Test.YtceldhkfidmfkaaDoorCk
namespace Go.Proofs.YtceldhkfidmfkaaDoor.L
open Go Go.ChangeMaps Go.ChangeShapes Go.WideShapes Go.ChangeAt Go.RowKit Go.Proofs.YtceldhkfidmfkaaDoorW.PrintWords Go.Proofs.YtceldhkfidmfkaaDoorW.PrintLast Go.Proofs.YtceldhkfidmfkaaDoorW.PrintMore
open Go.Proofs.YtceldhkfidmfkaaDoor.Plain
set_option maxRecDepth 100000

theorem and7 (x : Int) : ∃ D : Nat, D ≤ 7 ∧ Go.bits .and .i64 x 7 = (D : Int) := by
  refine ⟨(BitVec.ofInt 64 x &&& BitVec.ofInt 64 7).toNat, ?_, ?_⟩
  · rw [BitVec.toNat_and]
    exact Nat.le_trans Nat.and_le_right (by decide)
  · have h : (BitVec.ofInt 64 x &&& BitVec.ofInt 64 7).toNat ≤ 7 := by
      rw [BitVec.toNat_and]
      exact Nat.le_trans Nat.and_le_right (by decide)
    show IntKind.i64.wrap _ = _
    rw [IntKind.wrap_i64]
    show (((BitVec.ofInt 64 x &&& BitVec.ofInt 64 7).toNat : Int) + 9223372036854775808) % 18446744073709551616 - 9223372036854775808 = _
    omega
theorem snoc_list (a : ByteArray) : (a ++ (⟨#[32]⟩ : ByteArray)).data.toList = a.data.toList ++ [32] := by
  rw [ByteArray.data_append, Array.toList_append]
theorem app_list (a b : ByteArray) : (a ++ b).data.toList = a.data.toList ++ b.data.toList := by
  rw [ByteArray.data_append, Array.toList_append]
theorem ba_ext {a b : ByteArray} (h : a.data.toList = b.data.toList) : a = b := ByteArray.ext (by rw [← Array.toList_inj]; exact h)
theorem size_list (a : ByteArray) : a.size = a.data.toList.length := by simp

theorem bl_l0 (s : ByteArray) (x2 : Int) (l : List S31) (i p : Int) {D : Nat} (hD : D ≤ 7) (hx2 : Go.bits .and .i64 x2 7 = (D : Int)) {r : Bool} (y : ByteArray)
    (hy : Ev (fun k => whittlelaw4_LexBlanks.l0 k s x2 l i p y ((D + 1 : Nat) : Int)) r) (c : Nat) : ∀ (j : Nat) (x : ByteArray), j + c = D + 1 → y.data.toList = x.data.toList ++ List.replicate c 32 → x.size + c ≤ 1048576 →
    Ev (fun k => whittlelaw4_LexBlanks.l0 k s x2 l i p x (j : Int)) r := by
  induction c with
  | zero =>
    intro j x hj hx hs
    obtain rfl : x = y := ba_ext (by simpa using hx.symm)
    obtain rfl : j = D + 1 := by omega
    exact hy
  | succ c ih =>
    intro j x hj hx hs
    have hsz : (x ++ (⟨#[32]⟩ : ByteArray)).size = x.size + 1 := ByteArray.size_append
    refine Ev.step (f := fun k => whittlelaw4_LexBlanks.l0 k s x2 l i p (x ++ (⟨#[32]⟩ : ByteArray)) ((j + 1 : Nat) : Int)) (fun k => ?_)
      (ih (j + 1) (x ++ (⟨#[32]⟩ : ByteArray)) (by omega) (by rw [hx, snoc_list, List.replicate_succ]; simp) (by omega))
    simp only [whittlelaw4_LexBlanks.l0]
    rw [hx2, if_pos (by omega), if_pos (by omega), w64 (x := (j : Int) + 1) (by omega) (by omega)]
    rfl

/-- The tokens, those from i on moved. -/
def moved (ts : List Tk) (i d : Nat) : List Tk := ts.take i ++ (ts.drop i).map (Plain.mv d)
theorem moved_len (ts : List Tk) (i d : Nat) : (moved ts i d).length = ts.length := by
  unfold moved; simp; omega
theorem moved_alike (ts : List Tk) (i d : Nat) : Plain.Alike ts (moved ts i d) := by
  unfold Plain.Alike moved
  rw [List.map_append, List.map_map]
  have : ((fun t : Tk => (t.1, t.2.1)) ∘ Plain.mv d) = fun t => (t.1, t.2.1) := rfl
  rw [this, ← List.map_append, List.take_append_drop]
theorem moved_at? (ts : List Tk) (i d j : Nat) (hj : j < ts.length) : (moved ts i d)[j]? = some (if j ≥ i then Plain.mv d ts[j] else ts[j]) := by
  have hl : (ts.take i).length = min i ts.length := List.length_take
  unfold moved
  by_cases h : j < i
  · rw [if_neg (by omega), List.getElem?_append_left (by omega), List.getElem?_take_of_lt h, List.getElem?_eq_getElem hj]
  · rw [if_pos (by omega), List.getElem?_append_right (by omega), List.getElem?_map, List.getElem?_drop, hl, show i + (j - min i ts.length) = j by omega, List.getElem?_eq_getElem hj]
    rfl
theorem moved_at (ts : List Tk) (i d j : Nat) (hj : j < ts.length) (hj2 : j < (moved ts i d).length) : ((moved ts i d)[j]).2.2 = (ts[j]).2.2 + (if j ≥ i then d else 0) := by
  have h := moved_at? ts i d j hj
  rw [List.getElem?_eq_getElem hj2] at h
  rw [Option.some.inj h]
  by_cases hi : j ≥ i
  · rw [if_pos hi, if_pos hi]; rfl
  · rw [if_neg hi, if_neg hi]; rfl
theorem cutAt_get (e : Nat) : ∀ (ts : List Tk) (i : Nat) (h : i < ts.length), cutAt e ts i = (ts[i]).2.2
  | t :: ts, 0, _ => rfl
  | t :: ts, i + 1, h => cutAt_get e ts i (by simpa using h)
theorem cutAt_end (e : Nat) : ∀ (ts : List Tk) (i : Nat), ts.length ≤ i → cutAt e ts i = e
  | [], _, _ => rfl
  | t :: ts, 0, h => by simp at h
  | t :: ts, i + 1, h => cutAt_end e ts i (by simpa using h)

theorem bl_l1 (x2 : Int) {D : Nat} (hD : D ≤ 7) (hx2 : Go.bits .and .i64 x2 7 = (D : Int)) (ts : List Tk) (hlen : ts.length ≤ 1024) (hpl : ∀ (j : Nat) (h : j < ts.length), (ts[j]).2.2 ≤ 4096) (i : Nat) (d : Nat) : ∀ j : Nat, j + d = ts.length →
    Ev (fun k => whittlelaw4_LexBlanks.l1 k x2 (ts.map toS) (i : Int) ((moved ts i (D + 1)).map toS) (j : Int)) true := by
  induction d with
  | zero =>
    intro j hj
    exact Ev.step (f := fun _ => some true) (fun k => by simp only [whittlelaw4_LexBlanks.l1]; rw [if_neg (by simp; omega)]) (Ev.now _)
  | succ d ih =>
    intro j hj
    have h1 : j < ts.length := by omega
    have h2 : j < (moved ts i (D + 1)).length := by rw [moved_len]; omega
    have h1' : j < (ts.map toS).length := by simpa using h1
    have h2' : j < ((moved ts i (D + 1)).map toS).length := by simpa using h2
    have e1 : (rd_T31 (ts.map toS) (j : Int)).f2 = ((ts[j]).2.2 : Int) := by rw [rd_get h1', List.getElem_map]; rfl
    have e2 : (rd_T31 ((moved ts i (D + 1)).map toS) (j : Int)).f2 = (((moved ts i (D + 1))[j]).2.2 : Int) := by rw [rd_get h2', List.getElem_map]; rfl
    have hm := moved_at ts i (D + 1) j h1 h2
    have hb := hpl j h1
    refine Ev.step (f := fun k => whittlelaw4_LexBlanks.l1 k x2 (ts.map toS) (i : Int) ((moved ts i (D + 1)).map toS) ((j + 1 : Nat) : Int)) (fun k => ?_) (ih (j + 1) (by omega))
    simp only [whittlelaw4_LexBlanks.l1]
    rw [e1, e2, hx2, w64 (x := (D : Int) + 1) (by omega) (by omega), w64 (x := ((ts[j]).2.2 : Int) + ((D : Int) + 1)) (by omega) (by omega), w64 (x := ((ts[j]).2.2 : Int) + 0) (by omega) (by omega), w64 (x := (j : Int) + 1) (by omega) (by omega),
      if_pos (by omega)]
    by_cases hi : j ≥ i
    · rw [if_pos hi] at hm
      rw [if_pos (by omega), if_pos (by omega), if_pos (by omega), if_pos (by omega)]
      rfl
    · rw [if_neg hi] at hm
      rw [if_neg (by omega), if_pos (by omega), if_pos (by omega), if_pos (by omega)]
      rfl

theorem bl_tail (s : ByteArray) (hs : s.size ≤ 1024) (x2 : Int) {D : Nat} (hD : D ≤ 7) (hx2 : Go.bits .and .i64 x2 7 = (D : Int)) (ts : List Tk) (hsc : Sc 0 s.data.toList (.ok ts)) (i p : Nat) (hp : p = cutAt s.size ts i) :
    Ev (fun k => whittlelaw4_LexBlanks.j2 k s x2 (ts.map toS) (i : Int) (p : Int)) true := by
  have hsz : s.data.toList.length = s.size := by simp
  have hin := fun i => Sc.cutAt_in hsc ts i rfl
  simp only [Nat.zero_add, hsz] at hin
  have hp1 : p ≤ s.size := by rw [hp]; exact (hin i).2
  have hcount := count_sc hsc ts rfl
  refine Ev.step (f := fun k => whittlelaw4_LexBlanks.l0 k s x2 (ts.map toS) (i : Int) (p : Int) (s.extract 0 ((p : Int)).toNat) ((0 : Nat) : Int)) (fun k => ?_) ?_
  · simp only [whittlelaw4_LexBlanks.j2]
    rw [if_pos (by omega), if_pos (by omega)]
    rfl
  have hx : (s.extract 0 ((p : Int)).toNat).data.toList = s.data.toList.take p := by
    have := ext_list s 0 p
    rw [Nat.zero_add] at this
    rw [show ((p : Int)).toNat = p by omega, this]
    rfl
  have hz : (s.extract ((p : Int)).toNat s.size).data.toList = s.data.toList.drop p := by rw [Lib.extract_to_end]; rfl
  generalize hyd : (⟨(s.data.toList.take p ++ List.replicate (D + 1) 32).toArray⟩ : ByteArray) = y
  have hyl : y.data.toList = s.data.toList.take p ++ List.replicate (D + 1) 32 := by rw [← hyd]
  have hysz : y.size = p + (D + 1) := by rw [size_list, hyl]; simp; omega
  refine bl_l0 s x2 (ts.map toS) i p hD hx2 y ?_ (D + 1) 0 _ (Nat.zero_add _) (by rw [hyl, hx]) (by rw [ByteArray.size_extract]; omega)
  have hesz : (s.extract ((p : Int)).toNat s.size).size = s.size - p := by rw [ByteArray.size_extract]; omega
  have htl : (y ++ s.extract ((p : Int)).toNat s.size).data.toList = s.data.toList.take p ++ (List.replicate (D + 1) 32 ++ s.data.toList.drop p) := by rw [app_list, hyl, hz, List.append_assoc]
  have htsz : (y ++ s.extract ((p : Int)).toNat s.size).size = s.size + (D + 1) := by rw [ByteArray.size_append, hysz, hesz]; omega
  have hpart : Sc 0 (y ++ s.extract ((p : Int)).toNat s.size).data.toList (.ok (moved ts i (D + 1))) := by
    have := Sc.part hsc D ts i rfl
    rw [Nat.zero_add, hsz, ← hp, Nat.sub_zero] at this
    rw [htl]
    exact this
  refine Ev.step (f := fun k => (lex_Scan.f k (y ++ s.extract ((p : Int)).toNat s.size)).bind fun bt290 => (if ((y ++ (s.extract ((p : Int)).toNat s.size)).size : Int) > 1024 then (some (bt290.2.1 == 2)) else (if bt290.2.1 = 0 then ((whittlelaw4_alike.f k (ts.map toS) bt290.1).bind fun t295 => (whittlelaw4_LexBlanks.j4 k x2 (ts.map toS) (i : Int) bt290.1 (!t295))) else (whittlelaw4_LexBlanks.j4 k x2 (ts.map toS) (i : Int) bt290.1 true)))) (fun k => ?_) ?_
  · simp only [whittlelaw4_LexBlanks.l0]
    rw [hx2, if_neg (by omega), if_pos (by omega), if_pos (by omega), if_pos (by omega)]
  by_cases hT : s.size + (D + 1) ≤ 1024
  · have h1 := lexScan_f _ (by rw [htsz]; exact hT) hpart
    have h1' : Ev (fun k => lex_Scan.f k (y ++ s.extract ((p : Int)).toNat s.size)) ((moved ts i (D + 1)).map toS, 0, 0) := h1
    refine Ev.bind h1' ?_
    have h2 := alike_f (ts.map toS) ((moved ts i (D + 1)).map toS) (by simp; omega) (alike_toS (moved_alike ts i (D + 1)))
    have h3 := bl_l1 x2 hD hx2 ts (by omega) (fun j h => by have := (hin j).2; rw [cutAt_get _ _ _ h] at this; omega) i ts.length 0 (by omega)
    have h4 : Ev (fun k => whittlelaw4_LexBlanks.j4 k x2 (ts.map toS) (i : Int) ((moved ts i (D + 1)).map toS) false) true :=
      Ev.step (f := fun k => whittlelaw4_LexBlanks.l1 k x2 (ts.map toS) (i : Int) ((moved ts i (D + 1)).map toS) ((0 : Nat) : Int)) (fun k => by simp only [whittlelaw4_LexBlanks.j4]; rw [if_neg (by decide)]; rfl) h3
    refine Ev.congr (f := fun k => (whittlelaw4_alike.f k (ts.map toS) ((moved ts i (D + 1)).map toS)).bind fun t295 => (whittlelaw4_LexBlanks.j4 k x2 (ts.map toS) (i : Int) ((moved ts i (D + 1)).map toS) (!t295))) (fun k => ?_) (Ev.bind h2 h4)
    dsimp only
    rw [if_neg (by rw [htsz]; omega), if_pos rfl]
  · have h1 := lexScan_long _ (show ¬ (y ++ s.extract ((p : Int)).toNat s.size).size ≤ 1024 by rw [htsz]; exact hT)
    refine Ev.bind h1 ?_
    refine Ev.congr (f := fun _ => some true) (fun k => ?_) (Ev.now _)
    dsimp only
    rw [if_pos (by rw [htsz]; omega)]
    rfl
theorem bl_j1 (s : ByteArray) (hs : s.size ≤ 1024) (x2 : Int) {D : Nat} (hD : D ≤ 7) (hx2 : Go.bits .and .i64 x2 7 = (D : Int)) (ts : List Tk) (hsc : Sc 0 s.data.toList (.ok ts)) (i : Nat) (hi : i ≤ ts.length) :
    Ev (fun k => whittlelaw4_LexBlanks.j1 k s x2 (ts.map toS) (i : Int)) true := by
  by_cases h : i < ts.length
  · have h1' : i < (ts.map toS).length := by simpa using h
    have e1 : (rd_T31 (ts.map toS) (i : Int)).f2 = ((ts[i]).2.2 : Int) := by rw [rd_get h1', List.getElem_map]; rfl
    refine Ev.step (f := fun k => whittlelaw4_LexBlanks.j2 k s x2 (ts.map toS) (i : Int) ((ts[i]).2.2 : Int)) (fun k => ?_) (bl_tail s hs x2 hD hx2 ts hsc i _ (cutAt_get _ _ _ h).symm)
    simp only [whittlelaw4_LexBlanks.j1]
    rw [if_pos (by simp; omega), if_pos (by omega), e1]
  · refine Ev.step (f := fun k => whittlelaw4_LexBlanks.j2 k s x2 (ts.map toS) (i : Int) (s.size : Int)) (fun k => ?_) (bl_tail s hs x2 hD hx2 ts hsc i _ (cutAt_end _ _ _ (by omega)).symm)
    simp only [whittlelaw4_LexBlanks.j1]
    rw [if_neg (by simp; omega)]
theorem bl_j0 (s : ByteArray) (hs : s.size ≤ 1024) (a1 x2 : Int) (ts : List Tk) (hsc : Sc 0 s.data.toList (.ok ts)) :
    Ev (fun k => whittlelaw4_LexBlanks.j0 k s a1 x2 (ts.map toS) false) true := by
  obtain ⟨D, hD, hx2⟩ := and7 x2
  have hcount := count_sc hsc ts rfl
  have hsz : s.data.toList.length = s.size := by simp
  have hL : ((ts.map toS).length : Int) = (ts.length : Int) := by simp
  have hw : wrap64 ((ts.length : Int) + 1) = (ts.length : Int) + 1 := w64 (by omega) (by omega)
  have hub : Int.tmod a1 ((ts.length : Int) + 1) < (ts.length : Int) + 1 := Int.tmod_lt_of_pos _ (by omega)
  have hlb : -((ts.length : Int) + 1) < Int.tmod a1 ((ts.length : Int) + 1) := by
    have := Int.tmod_lt_of_pos (-a1) (show (0 : Int) < (ts.length : Int) + 1 by omega)
    rw [Int.neg_tmod] at this
    omega
  generalize hm : Int.tmod a1 ((ts.length : Int) + 1) = m at hub hlb
  by_cases hneg : m < 0
  · refine Ev.step (f := fun k => whittlelaw4_LexBlanks.j1 k s x2 (ts.map toS) (((m + ts.length + 1).toNat : Nat) : Int)) (fun k => ?_) (bl_j1 s hs x2 hD hx2 ts hsc _ (by omega))
    simp only [whittlelaw4_LexBlanks.j0]
    rw [hL, hw, hm, if_neg (by decide), if_neg (by omega), if_pos hneg, w64 (x := m + (ts.length : Int)) (by omega) (by omega), w64 (x := m + (ts.length : Int) + 1) (by omega) (by omega)]
    rw [show (((m + ts.length + 1).toNat : Nat) : Int) = m + (ts.length : Int) + 1 by omega]
  · refine Ev.step (f := fun k => whittlelaw4_LexBlanks.j1 k s x2 (ts.map toS) ((m.toNat : Nat) : Int)) (fun k => ?_) (bl_j1 s hs x2 hD hx2 ts hsc _ (by omega))
    simp only [whittlelaw4_LexBlanks.j0]
    rw [hL, hw, hm, if_neg (by decide), if_neg (by omega), if_neg hneg]
    rw [show ((m.toNat : Nat) : Int) = m by omega]
theorem bl_j0_true (s : ByteArray) (a1 x2 : Int) (l : List S31) : Ev (fun k => whittlelaw4_LexBlanks.j0 k s a1 x2 l true) true :=
  Ev.step (f := fun _ => some true) (fun k => by simp only [whittlelaw4_LexBlanks.j0]; rw [if_pos trivial]) (Ev.now _)
theorem blanks_true (s : ByteArray) (a1 a2 : Int) : ∃ k, whittlelaw4_LexBlanks.f k s a1 a2 = some true := by
  refine Ev.rounds ?_
  refine able_then' ?_
  by_cases hs : s.size ≤ 1024
  · obtain ⟨res, hr⟩ := Sc.some s.data.toList 0
    have h1 := lexScan_f s hs hr
    cases res with
    | ok ts =>
      have h1' : Ev (fun k => lex_Scan.f k s) (ts.map toS, 0, 0) := h1
      refine Ev.bind h1' ?_
      cases hb : ((((ts.map toS).length : Int)) == 0) with
      | true =>
        refine Ev.congr (f := fun k => whittlelaw4_LexBlanks.j0 k s a1 a2 (ts.map toS) true) (fun k => ?_) (bl_j0_true s a1 a2 _)
        dsimp only
        rw [if_pos rfl]
      | false =>
        refine Ev.congr (f := fun k => whittlelaw4_LexBlanks.j0 k s a1 a2 (ts.map toS) false) (fun k => ?_) (bl_j0 s hs a1 a2 ts hr)
        dsimp only
        rw [if_pos rfl]
    | err e pe =>
      have hb := Sc.err_in hr e pe rfl
      have h1' : Ev (fun k => lex_Scan.f k s) (([] : List S31), e, (pe : Int)) := h1
      refine Ev.bind h1' ?_
      refine Ev.congr (f := fun k => whittlelaw4_LexBlanks.j0 k s a1 a2 [] true) (fun k => ?_) (bl_j0_true s a1 a2 _)
      dsimp only
      rw [if_neg (by omega)]
  · refine Ev.bind (lexScan_long s hs) ?_
    refine Ev.congr (f := fun k => whittlelaw4_LexBlanks.j0 k s a1 a2 [] true) (fun k => ?_) (bl_j0_true s a1 a2 _)
    dsimp only
    rw [if_neg (by decide)]

theorem blanks_contract (H : Type) (enc : TypeId × Value → H) (W : World) (base : Nat) (args : Array Value) (ds gs : List (DataW H)) (before : List MemPlace)
    (hval : ∀ (j : Nat) t v, Tryd.f7.params[j]? = some t → args[j]? = some v → Value.okWide Tryd.prog W .any base t v)
    (hW : DataW.Whole enc Tryd.prog Tryd.f7.params.toList Rows.lexBlanksSpec.vars false W args.toList ds gs before) (hL : laidMetH Tryd.prog laidL W) (hsh : W.ShapedOpen Tryd.prog) :
    Calls Tryd.prog 7 args W fun e W' => ∃ v, e = .returned v ∧ Rows.lexBlanksSpec.post enc Tryd.prog Tryd.f7 false true false false W args v W' := by
  have hW' := hW
  obtain ⟨p, q, hA0, hV, rfl, hfz, hnd⟩ := hW
  have hA : DataW.TrodAll enc Tryd.prog W 0 (fun _ => true) true Tryd.f7.params.toList args.toList ds p := hA0
  rw [Tryd.params7] at hA hval
  obtain ⟨v0, vs0, d0, ds0, p0, q0, hargs, rfl, rfl, h0, r0⟩ := trodAll_cons hA
  obtain ⟨v1, vs1, d1, ds1, p1, q1, rfl, rfl, rfl, h1, r1⟩ := trodAll_cons r0
  obtain ⟨v2, vs2, d2, ds2, p2, q2, rfl, rfl, rfl, h2, r2⟩ := trodAll_cons r1
  obtain ⟨rfl, rfl, rfl⟩ := trodAll_nil r2
  obtain rfl : args = #[v0, v1, v2] := by cases args; simp_all
  obtain ⟨rfl, rfl⟩ := trodVars_none hV
  obtain ⟨x0, rfl, rfl, rfl, w0⟩ := open_string Tryd.underlying9 (hval 0 9 v0 rfl rfl) h0
  obtain ⟨x1, rfl, rfl, rfl, w1⟩ := open_int Tryd.underlying3 (hval 1 3 v1 rfl rfl) h1
  obtain ⟨x2, rfl, rfl, rfl, w2⟩ := open_int Tryd.underlying3 (hval 2 3 v2 rfl rfl) h2
  simp only [List.append_nil] at hW'
  obtain ⟨k, hk⟩ := blanks_true x0 x1 x2
  refine (whittlelaw4_LexBlanks.calls k x0 x1 x2 true W (laidG_of hL hsh) hk).mono fun e W' ⟨he, hb⟩ => ?_
  subst he
  exact ⟨_, rfl, _, _, _, [], [], [], hW', trodAll_mk1 (shut_bool Tryd.underlying4 _), trodAll_cons_mk (shut_string Tryd.underlying9 w0) (trodAll_cons_mk (shut_int Tryd.underlying3 w1) (trodAll_cons_mk (shut_int Tryd.underlying3 w2) trodAll_mk0)), rfl, hb.frame _, fun h => by cases h⟩

theorem blanks_reads (os : Os) {H : Type} (enc : TypeId × Value → H) : ∃ places, DataW.whole enc Tryd.prog ((World.laidAll Tryd.prog os laidL).forCall (fun _ _ => 0) ⟨#[], #[.string ⟨#[]⟩, .int .i64 0, .int .i64 0], []⟩).memory Tryd.f7.params.toList Rows.lexBlanksSpec.vars false #[Value.string ⟨#[]⟩, .int .i64 0, .int .i64 0].toList 8 = some ([.lit (.string []), .lit (.int .i64 0), .lit (.int .i64 0)], [], places) :=
  ⟨[], by kernel_rfl⟩
theorem blanks_lifted (os : Os) (started : os.Started) (H : Type) (enc : TypeId × Value → H) (F : Stop.Interp) :
    ReturnsInHanded {} Tryd.checked os 7 .any ((OpenSpec.ofChange Rows.lexBlanksSpec).preRow enc Tryd.prog Tryd.f7 Rows.lexBlanksRow.domain false Rows.lexBlanksRow.laid) (((OpenSpec.ofChange Rows.lexBlanksSpec).at F).post enc Tryd.prog Tryd.f7 false true false false) := by
  obtain ⟨places, hx⟩ := blanks_reads os enc
  refine returnsInHanded_of_row (C := Tryd.checked) (s := OpenSpec.ofChange Rows.lexBlanksSpec) own started (by kernel_rfl) Tryd.func7
    (witness_row_at (enc := enc) (C := Tryd.checked) false (World.laidAll Tryd.prog os laidL) #[.string ⟨#[]⟩, .int .i64 0, .int .i64 0] (World.laidAll_os _ _ _) (by kernel_rfl) (by kernel_rfl) (by kernel_rfl)
      (OpenSpec.preRow_of_cond 8 hx (by kernel_rfl) (fun k hk => by cases hk) (by kernel_rfl) (laid_met os _))) ?_
  intro W base args ds gs before hval hW _ _ _ hL hsh _
  exact blanks_contract H enc W base args ds gs before hval hW hL hsh
theorem blanks_said : Rows.LexBlanksSaid :=
  OpenClaim.holds_of_cond 7 Tryd.f7 rfl rfl rfl rfl rfl rfl rfl ⟨rfl, rfl, rfl, rfl, rfl⟩ rfl rfl rfl rfl rfl (by kernel_rfl) Tryd.func7 (by kernel_rfl)
    (of_decide_eq_true (by kernel_rfl)) (by unfold Func.isWrapper; first | (rw [if_pos (by decide +kernel)]; kernel_rfl) | (rw [if_neg (by decide +kernel)]; exact ⟨rfl, rfl⟩))
    (fun os started H enc _ F => by rw [OpenClaim.pre_eq_preRow]; exact blanks_lifted os started H enc F)
theorem blanks_plain (f : FuncId) (fn : Func) (hf : Tryd.pinned.checked.prog.funcNamed "whittle/whittlelaw4.LexBlanks" = some f) (hfn : Tryd.pinned.checked.prog.funcs[f]? = some fn) :
    false = Tryd.pinned.checked.prog.looks [] ∧ ∀ (j : Nat) t, fn.params[j]? = some t → Tryd.pinned.checked.prog.wantsStandIn t = false := by
  obtain rfl : f = 7 := Option.some.inj ((show Tryd.prog.funcNamed "whittle/whittlelaw4.LexBlanks" = some 7 by kernel_rfl).symm.trans hf) |>.symm
  obtain rfl : fn = Tryd.f7 := (Option.some.inj (Tryd.func7.symm.trans hfn)).symm
  refine ⟨by kernel_rfl, fun j t ht => ?_⟩
  rw [Tryd.params7] at ht
  have hm : t = 9 ∨ t = 3 := by simpa using Array.mem_of_getElem? ht
  rcases hm with rfl | rfl
  · exact (show Tryd.prog.wantsStandIn 9 = false by kernel_rfl)
  · exact (show Tryd.prog.wantsStandIn 3 = false by kernel_rfl)
end Go.Proofs.YtceldhkfidmfkaaDoor.L
namespace Go.Proofs.YtceldhkfidmfkaaDoor
theorem lexBlanks_card : Rows.LexBlanksCardSaid :=
  Claim7.holds_tied_plain_at .later [] _ _ _ _ L.blanks_said (fun _ h => by cases h) (by kernel_rfl) (fun _ h => by cases h) lexBlanks_row_tie rfl ⟨rfl, rfl⟩ (by kernel_rfl) rfl L.blanks_plain (by kernel_rfl)
end Go.Proofs.YtceldhkfidmfkaaDoor
