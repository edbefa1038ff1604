/- PROVED: whittlelaw4.LexCovers answers true for every text: tokens stand one behind the other with nothing but blanks between, and what stands ahead of a refused byte is taken or ends in a text. Conditions: those of the card (the listed package-level variables hold what the program's text lays). -/
import Derived.Test.YtceldhkfidmfkaaDoorLx22
import Derived.Test.YtceldhkfidmfkaaDoorEv2
import Derived.Test.YtceldhkfidmfkaaDoorCut
import Derived.Test.YtceldhkfidmfkaaDoorCk
namespace Go.Proofs.YtceldhkfidmfkaaDoor.L
open Go Go.ChangeMaps Go.ChangeShapes Go.WideShapes Go.ChangeAt Go.RowKit Go.Proofs.YtceldhkfidmfkaaDoorW.PrintWords Go.Proofs.YtceldhkfidmfkaaDoorW.PrintLast Go.Proofs.YtceldhkfidmfkaaDoorW.PrintMore
open Go.Proofs.YtceldhkfidmfkaaDoor.Plain
set_option maxRecDepth 100000

theorem cov_l3 (s : ByteArray) (hs : s.size ≤ 1024) (d : Nat) : ∀ E : Nat, E + d = s.size → (∀ i : Nat, E ≤ i → i < s.size → bt s (i : Int) = 32) → Ev (fun k => whittlelaw4_LexCovers.l3 k s (E : Int)) true := by
  induction d with
  | zero =>
    intro E hE _
    exact Ev.step (f := fun _ => some true) (fun k => by simp only [whittlelaw4_LexCovers.l3]; rw [if_neg (by omega)]) (Ev.now _)
  | succ d ih =>
    intro E hE hb
    refine Ev.step (f := fun k => whittlelaw4_LexCovers.l3 k s ((E + 1 : Nat) : Int)) (fun k => ?_) (ih (E + 1) (by omega) (fun i h1 h2 => hb i (by omega) h2))
    simp only [whittlelaw4_LexCovers.l3]
    rw [if_pos (by omega), if_pos (by omega), if_pos (hb E (by omega) (by omega)), w64 (x := (E : Int) + 1) (by omega) (by omega)]
    rfl
theorem cov_l1 (s : ByteArray) (hs : s.size ≤ 1024) (full : List S31) (j p : Nat) (kd : Int) (t : ByteArray) (hp : p ≤ s.size) {r : Bool}
    (ht : Ev (fun k => whittlelaw4_LexCovers.l1 k s full (j : Int) (p : Int) kd t (p : Int)) r) (d : Nat) : ∀ E : Nat, E + d = p → (∀ i : Nat, E ≤ i → i < p → bt s (i : Int) = 32) →
    Ev (fun k => whittlelaw4_LexCovers.l1 k s full (j : Int) (E : Int) kd t (p : Int)) r := by
  induction d with
  | zero => intro E hE _; obtain rfl : E = p := by omega
            exact ht
  | succ d ih =>
    intro E hE hb
    refine Ev.step (f := fun k => whittlelaw4_LexCovers.l1 k s full (j : Int) ((E + 1 : Nat) : Int) kd t (p : Int)) (fun k => ?_) (ih (E + 1) (by omega) (fun i h1 h2 => hb i (by omega) h2))
    simp only [whittlelaw4_LexCovers.l1]
    rw [if_pos (by omega), if_pos (by omega), if_pos (by omega), if_pos (hb E (by omega) (by omega)), w64 (x := (E : Int) + 1) (by omega) (by omega)]
    rfl
theorem dbl_le (u : List UInt8) : (dbl u).length ≤ 2 * u.length := by
  induction u with
  | nil => simp [dbl]
  | cons c u ih => simp only [dbl]; split <;> simp <;> omega
theorem dbl_ge (u : List UInt8) : u.length ≤ (dbl u).length := by
  induction u with
  | nil => simp
  | cons c u ih => simp only [dbl]; split <;> simp <;> omega
theorem able_then {g : Nat → Option Bool} {r : Bool} (h : Ev g r) : Ev (fun k => (whittlelaw4_able.f k).bind fun t => if t = true then g k else some false) r :=
  Ev.bind able_ev (Ev.congr (f := g) (fun k => by rw [if_pos rfl]) h)
theorem cov_l2 (s : ByteArray) (full : List S31) (j p : Nat) (hp : p ≤ 1024) (hj : j ≤ 1024) (kd : Int) (t : ByteArray) (hts : t.size ≤ 1024) {r : Bool} (d : Nat) : ∀ (i x : Nat), i + d = t.size → x ≤ 2 * i + 2 →
    Ev (fun k => whittlelaw4_LexCovers.l0 k s full ((p + (x + (dbl (dr t (i : Int))).length) : Nat) : Int) ((j + 1 : Nat) : Int)) r →
    Ev (fun k => whittlelaw4_LexCovers.l2 k s full (j : Int) (x : Int) (i : Int) kd t (p : Int)) r := by
  induction d with
  | zero =>
    intro i x hi hx h
    have hn : dr t (i : Int) = [] := dr_nil (by omega)
    rw [hn] at h
    refine Ev.step (f := fun k => whittlelaw4_LexCovers.l0 k s full ((p + x : Nat) : Int) ((j + 1 : Nat) : Int)) (fun k => ?_) (by simpa [dbl] using h)
    simp only [whittlelaw4_LexCovers.l2]
    rw [if_neg (by omega), w64 (x := (p : Int) + (x : Int)) (by omega) (by omega), w64 (x := (j : Int) + 1) (by omega) (by omega)]
    rfl
  | succ d ih =>
    intro i x hi hx h
    obtain ⟨c, hc, hb⟩ := dr_cons (s := t) (i := (i : Int)) (by omega) (by omega)
    have hbd := dbl_le (dr t ((i : Int) + 1))
    have e1 : dr t ((i + 1 : Nat) : Int) = dr t ((i : Int) + 1) := rfl
    by_cases h34 : c = 34
    · have hd : (dbl (dr t (i : Int))).length = (dbl (dr t ((i : Int) + 1))).length + 2 := by rw [hc, h34, dbl_quote]; rfl
      rw [hd] at h
      refine Ev.step (f := fun k => whittlelaw4_LexCovers.l2 k s full (j : Int) ((x + 2 : Nat) : Int) ((i + 1 : Nat) : Int) kd t (p : Int)) (fun k => ?_) (ih (i + 1) (x + 2) (by omega) (by omega) ?_)
      · simp only [whittlelaw4_LexCovers.l2]
        rw [if_pos (by omega), if_pos (by omega), hb, if_pos (c34.mpr h34), w64 (x := (x : Int) + 1) (by omega) (by omega), w64 (x := (x : Int) + 1 + 1) (by omega) (by omega), w64 (x := (i : Int) + 1) (by omega) (by omega)]
        rw [show (x : Int) + 1 + 1 = ((x + 2 : Nat) : Int) by omega, show (i : Int) + 1 = ((i + 1 : Nat) : Int) by omega]
      · rw [e1, show x + 2 + (dbl (dr t ((i : Int) + 1))).length = x + ((dbl (dr t ((i : Int) + 1))).length + 2) by omega]
        exact h
    · have hd : (dbl (dr t (i : Int))).length = (dbl (dr t ((i : Int) + 1))).length + 1 := by rw [hc, dbl_other _ h34]; rfl
      rw [hd] at h
      refine Ev.step (f := fun k => whittlelaw4_LexCovers.l2 k s full (j : Int) ((x + 1 : Nat) : Int) ((i + 1 : Nat) : Int) kd t (p : Int)) (fun k => ?_) (ih (i + 1) (x + 1) (by omega) (by omega) ?_)
      · simp only [whittlelaw4_LexCovers.l2]
        rw [if_pos (by omega), if_pos (by omega), hb, if_neg (fun h => h34 (c34.mp h)), w64 (x := (x : Int) + 1) (by omega) (by omega), w64 (x := (i : Int) + 1) (by omega) (by omega)]
        rw [show (x : Int) + 1 = ((x + 1 : Nat) : Int) by omega, show (i : Int) + 1 = ((i + 1 : Nat) : Int) by omega]
      · rw [e1, show x + 1 + (dbl (dr t ((i : Int) + 1))).length = x + ((dbl (dr t ((i : Int) + 1))).length + 1) by omega]
        exact h

theorem rd_at {full : List S31} {j : Nat} {a : S31} {rest : List S31} (h : full.drop j = a :: rest) : j < full.length ∧ rd_T31 full (j : Int) = a ∧ full.drop (j + 1) = rest := by
  have hl : j < full.length := by
    refine Decidable.byContradiction fun hn => ?_
    rw [List.drop_eq_nil_iff.mpr (by omega)] at h
    cases h
  rw [List.drop_eq_getElem_cons hl] at h
  injection h with h1 h2
  refine ⟨hl, ?_, h2⟩
  unfold rd_T31
  rw [show ((j : Int)).toNat = j by omega, List.getD_eq_getElem?_getD, List.getElem?_eq_getElem hl]
  exact h1
theorem cov_l0 (s : ByteArray) (hs : s.size ≤ 1024) (full : List S31) (hf : full.length ≤ 1024) {p : Nat} {l : List UInt8} {res : Res} (h : Sc p l res) : ∀ ts, res = .ok ts → ∀ (E j : Nat), full.drop j = ts.map toS →
    dr s (p : Int) = l → p ≤ s.size → E ≤ p → (∀ i : Nat, E ≤ i → i < p → bt s (i : Int) = 32) → Ev (fun k => whittlelaw4_LexCovers.l0 k s full (E : Int) (j : Int)) true := by
  induction h with
  | @nil p =>
    intro ts e E j hj hl hp hE hb
    cases e
    have hlen : s.size - p = 0 := by have := dr_len s (p : Int); rw [hl] at this; simpa using this.symm
    have hj' : full.length ≤ j := by simpa using hj
    refine Ev.step (f := fun k => whittlelaw4_LexCovers.l3 k s (E : Int)) (fun k => by simp only [whittlelaw4_LexCovers.l0]; rw [if_neg (by omega)]) ?_
    exact cov_l3 s hs (s.size - E) E (by omega) (fun i h1 h2 => hb i h1 (by omega))
  | @blank p c r res hc _ ih =>
    intro ts e E j hj hl hp hE hb
    have hlen : p < s.size := by have := dr_len s (p : Int); rw [hl] at this; simp at this; omega
    obtain ⟨c', hc', hbc⟩ := dr_cons (s := s) (i := (p : Int)) (by omega) (by omega)
    rw [hl] at hc'
    injection hc' with e1 e2
    subst e1
    refine ih ts e E j hj (by rw [e2]; rfl) (by omega) (by omega) (fun i h1 h2 => ?_)
    by_cases hi : i = p
    · subst hi; rw [hbc]; exact c32.mpr hc
    · exact hb i h1 (by omega)
  | @tok p c r t kd n res hc hn _ ih =>
    intro ts e E j hj hl hp hE hb
    have hk := nextS_tok hn
    have hln : (c :: r).length = s.size - p := by rw [← hl]; exact dr_len s (p : Int)
    have hlen : p < s.size := by simp only [List.length_cons] at hln; omega
    obtain ⟨l', rfl, rfl⟩ := put_ok e
    rw [List.map_cons] at hj
    obtain ⟨hjl, hrd, hdr⟩ := rd_at hj
    have h1 : (rd_T31 full (j : Int)).f0 = kd := by rw [hrd]; rfl
    have h2 : (rd_T31 full (j : Int)).f1 = ⟨t.toArray⟩ := by rw [hrd]; rfl
    have h3 : (rd_T31 full (j : Int)).f2 = (p : Int) := by rw [hrd]; rfl
    have hgood := good_of (p := p) hc hn
    have hnext := ih l' rfl (p + n) (j + 1) hdr (by rw [← dr_drop, hl]) (by omega) (by omega) (fun i h1 h2 => by omega)
    have htl : t.length ≤ n := by
      rw [← hgood.2]
      unfold piece
      split
      · have := dbl_ge t
        simp; omega
      · exact Nat.le_refl _
    refine Ev.step (f := fun k => whittlelaw4_LexCovers.j1 k s full (E : Int) (j : Int) false kd ⟨t.toArray⟩ (p : Int)) (fun k => ?_) ?_
    · simp only [whittlelaw4_LexCovers.l0]
      rw [if_pos (by omega), if_pos (by omega), h1, h2, h3, if_neg (by omega), if_neg (by omega), if_neg (by omega), decide_eq_false (by omega)]
    refine Ev.step (f := fun k => whittlelaw4_LexCovers.l1 k s full (j : Int) (E : Int) kd ⟨t.toArray⟩ (p : Int)) (fun k => by simp only [whittlelaw4_LexCovers.j1]; rw [if_neg (by decide)]) ?_
    refine cov_l1 s hs full j p kd ⟨t.toArray⟩ hp ?_ (p - E) E (by omega) hb
    by_cases hk2 : kd = 2
    · refine Ev.step (f := fun k => whittlelaw4_LexCovers.l2 k s full (j : Int) ((2 : Nat) : Int) ((0 : Nat) : Int) kd ⟨t.toArray⟩ (p : Int)) (fun k => ?_) ?_
      · simp only [whittlelaw4_LexCovers.l1]
        rw [if_neg (by omega), if_pos hk2]
        rfl
      · refine cov_l2 s full j p (by omega) (by omega) kd ⟨t.toArray⟩ (by show t.toArray.size ≤ 1024; rw [List.size_toArray]; omega) _ 0 2 (Nat.zero_add _) (by omega) ?_
        have : 2 + (dbl (dr (⟨t.toArray⟩ : ByteArray) ((0 : Nat) : Int))).length = n := by
          rw [dr_zero]
          have := hgood.2
          simp [piece, hk2] at this
          simp
          omega
        rw [this]
        exact hnext
    · have ht := hk.2.2.2.2 hk2
      have htn : t.length = n := by rw [ht, List.length_take]; omega
      have hsz : ((⟨t.toArray⟩ : ByteArray).size) = n := by show t.toArray.size = n; rw [List.size_toArray, htn]
      refine Ev.step (f := fun k => whittlelaw4_LexCovers.l0 k s full ((p + n : Nat) : Int) ((j + 1 : Nat) : Int)) (fun k => ?_) hnext
      simp only [whittlelaw4_LexCovers.l1]
      rw [if_neg (by omega), if_neg hk2, hsz, w64 (x := (s.size : Int) - (p : Int)) (by omega) (by omega), if_neg (by simp only [List.length_cons] at *; omega), if_neg (by omega), if_pos (by omega),
        w64 (x := (p : Int) + (n : Int)) (by omega) (by omega), w64 (x := (j : Int) + 1) (by omega) (by omega), if_pos (by omega), if_pos (by simp only [List.length_cons] at *; omega)]
      have hx : (s.extract ((p : Int)).toNat (((p : Int) + (n : Int))).toNat).toList = (⟨t.toArray⟩ : ByteArray).toList := by
        rw [toList_data, toList_data, show ((p : Int)).toNat = p by omega, show (((p : Int) + (n : Int))).toNat = p + n by omega, ext_list]
        have : s.data.toList.drop p = c :: r := hl
        rw [this, ← ht]
      rw [if_pos hx]
      rfl
  | err => intro ts e; cases e

theorem Sc.count' {p : Nat} {l : List UInt8} {res : Res} (h : Sc p l res) : ∀ ts, res = .ok ts → ts.length ≤ l.length := by
  induction h with
  | nil => intro ts e; cases e; simp
  | @blank p c r res hc _ ih => intro ts e; have := ih ts e; simp; omega
  | @tok p c r t kd n res hc hn _ ih =>
    intro ts e
    have hk := nextS_tok hn
    obtain ⟨l', rfl, rfl⟩ := put_ok e
    have := ih l' rfl
    rw [List.length_drop] at this
    simp only [List.length_cons] at *
    omega
  | err => intro ts e; cases e
theorem cut_ev (s : ByteArray) (hs : s.size ≤ 1024) {a : Nat} (ha : a ≤ s.size) {res : Res} (h : Sc 0 (s.data.toList.take a) res) (hr : (∃ ts, res = .ok ts) ∨ ∃ p', res = .err 41 p') :
    Ev (fun k => whittlelaw4_cut.f k s (a : Int)) true := by
  have hx : (s.extract 0 ((a : Int)).toNat).data.toList = s.data.toList.take a := by
    have := ext_list s 0 a
    rw [Nat.zero_add] at this
    rw [show ((a : Int)).toNat = a by omega, this]
    rfl
  have h1 := lexScan_f (s.extract 0 ((a : Int)).toNat) (by rw [ByteArray.size_extract]; omega) (res := res) (by rw [hx]; exact h)
  refine Ev.congr (f := fun k => (lex_Scan.f k (s.extract 0 ((a : Int)).toNat)).bind fun bt300 => (if bt300.2.1 = 0 then (some true) else (some (bt300.2.1 == 41)))) (fun k => ?_) ?_
  · unfold whittlelaw4_cut.f
    rw [if_pos (by omega), if_pos (by omega)]
  · refine Ev.bind h1 ?_
    rcases hr with ⟨ts, rfl⟩ | ⟨p', rfl⟩
    · exact Ev.now true
    · exact Ev.now true
theorem covers_true (s : ByteArray) : ∃ k, whittlelaw4_LexCovers.f k s = some true := by
  refine Ev.rounds ?_
  refine able_then ?_
  by_cases hs : s.size ≤ 1024
  · obtain ⟨res, hr⟩ := Sc.some s.data.toList 0
    have h1 := lexScan_f s hs hr
    have hsz : s.data.toList.length = s.size := by simp
    cases res with
    | ok ts =>
      have hc := Sc.count' hr ts rfl
      have h2 := cov_l0 s hs (ts.map toS) (by simp; omega) hr ts rfl 0 0 rfl (dr_zero s) (by omega) (by omega) (fun i h1 h2 => by omega)
      refine Ev.bind h1 ?_
      refine Ev.congr (f := fun k => whittlelaw4_LexCovers.l0 k s (ts.map toS) ((0 : Nat) : Int) ((0 : Nat) : Int)) (fun k => ?_) h2
      rfl
    | err e pe =>
      have hb := Sc.err_in hr e pe rfl
      obtain ⟨res', hc1, hc2⟩ := Sc.cut hr e pe rfl
      rw [Nat.sub_zero] at hc1
      have h2 := cut_ev s hs (a := pe) (by omega) hc1 hc2
      have h1' : Ev (fun k => lex_Scan.f k s) (([] : List S31), e, (pe : Int)) := h1
      refine Ev.bind h1' ?_
      have he : ¬ e = 0 := by omega
      by_cases h40 : e = 40
      · by_cases h0 : pe = 0
        · refine Ev.congr (f := fun _ => some true) (fun k => ?_) (Ev.now _)
          dsimp only
          rw [if_neg he, if_pos (by omega), if_pos (by omega), if_pos h40, if_pos (by omega), if_pos (by omega)]
        · refine Ev.congr (f := fun k => (whittlelaw4_cut.f k s (pe : Int)).bind fun t311 => some t311) (fun k => ?_) (Ev.bind h2 (Ev.now true))
          dsimp only
          rw [if_neg he, if_pos (by omega), if_pos (by omega), if_pos h40, if_pos (by omega), if_neg (by omega)]
      · refine Ev.congr (f := fun _ => some true) (fun k => ?_) (Ev.now _)
        dsimp only
        rw [if_neg he, if_pos (by omega), if_pos (by omega), if_neg h40]
  · have h1 := lexScan_long s hs
    refine Ev.bind h1 ?_
    refine Ev.congr (f := fun _ => some true) (fun k => ?_) (Ev.now _)
    dsimp only
    rw [if_neg (by decide), if_pos (by decide), if_pos (by omega), if_neg (by decide)]

theorem covers_contract (H : Type) (enc : TypeId × Value → H) (W : World) (base : Nat) (args : Array Value) (ds gs : List (DataW H)) (before : List MemPlace)
    (hval : ∀ (j : Nat) t v, Tryd.f8.params[j]? = some t → args[j]? = some v → Value.okWide Tryd.prog W .any base t v)
    (hW : DataW.Whole enc Tryd.prog Tryd.f8.params.toList Rows.lexCoversSpec.vars false W args.toList ds gs before) (hL : laidMetH Tryd.prog laidL W) (hsh : W.ShapedOpen Tryd.prog) :
    Calls Tryd.prog 8 args W fun e W' => ∃ v, e = .returned v ∧ Rows.lexCoversSpec.post enc Tryd.prog Tryd.f8 false true false false W args v W' := by
  have hW' := hW
  obtain ⟨p, q, hA0, hV, rfl, hfz, hnd⟩ := hW
  have hA : DataW.TrodAll enc Tryd.prog W 0 (fun _ => true) true Tryd.f8.params.toList args.toList ds p := hA0
  rw [Tryd.params8] at hA hval
  obtain ⟨v0, vs0, d0, ds0, p0, q0, hargs, rfl, rfl, h0, r0⟩ := trodAll_cons hA
  obtain ⟨rfl, rfl, rfl⟩ := trodAll_nil r0
  obtain rfl : args = #[v0] := by cases args; simp_all
  obtain ⟨rfl, rfl⟩ := trodVars_none hV
  obtain ⟨x0, rfl, rfl, rfl, w0⟩ := open_string Tryd.underlying9 (hval 0 9 v0 rfl rfl) h0
  simp only [List.append_nil] at hW'
  obtain ⟨k, hk⟩ := covers_true x0
  refine (whittlelaw4_LexCovers.calls k x0 true W (laidG_of hL hsh) hk).mono fun e W' ⟨he, hb⟩ => ?_
  subst he
  exact ⟨_, rfl, _, _, _, [], [], [], hW', trodAll_mk1 (shut_bool Tryd.underlying4 _), trodAll_cons_mk (shut_string Tryd.underlying9 w0) trodAll_mk0, rfl, hb.frame _, fun h => by cases h⟩

theorem covers_reads (os : Os) {H : Type} (enc : TypeId × Value → H) : ∃ places, DataW.whole enc Tryd.prog ((World.laidAll Tryd.prog os laidL).forCall (fun _ _ => 0) ⟨#[], #[.string ⟨#[]⟩], []⟩).memory Tryd.f8.params.toList Rows.lexCoversSpec.vars false #[Value.string ⟨#[]⟩].toList 8 = some ([.lit (.string [])], [], places) :=
  ⟨[], by kernel_rfl⟩
theorem covers_lifted (os : Os) (started : os.Started) (H : Type) (enc : TypeId × Value → H) (F : Stop.Interp) :
    ReturnsInHanded {} Tryd.checked os 8 .any ((OpenSpec.ofChange Rows.lexCoversSpec).preRow enc Tryd.prog Tryd.f8 Rows.lexCoversRow.domain false Rows.lexCoversRow.laid) (((OpenSpec.ofChange Rows.lexCoversSpec).at F).post enc Tryd.prog Tryd.f8 false true false false) := by
  obtain ⟨places, hx⟩ := covers_reads os enc
  refine returnsInHanded_of_row (C := Tryd.checked) (s := OpenSpec.ofChange Rows.lexCoversSpec) own started (by kernel_rfl) Tryd.func8
    (witness_row_at (enc := enc) (C := Tryd.checked) false (World.laidAll Tryd.prog os laidL) #[.string ⟨#[]⟩] (World.laidAll_os _ _ _) (by kernel_rfl) (by kernel_rfl) (by kernel_rfl)
      (OpenSpec.preRow_of_cond 8 hx (by kernel_rfl) (fun k hk => by cases hk) (by kernel_rfl) (laid_met os _))) ?_
  intro W base args ds gs before hval hW _ _ _ hL hsh _
  exact covers_contract H enc W base args ds gs before hval hW hL hsh
theorem covers_said : Rows.LexCoversSaid :=
  OpenClaim.holds_of_cond 8 Tryd.f8 rfl rfl rfl rfl rfl rfl rfl ⟨rfl, rfl, rfl, rfl, rfl⟩ rfl rfl rfl rfl rfl (by kernel_rfl) Tryd.func8 (by kernel_rfl)
    (of_decide_eq_true (by kernel_rfl)) (by unfold Func.isWrapper; first | (rw [if_pos (by decide +kernel)]; kernel_rfl) | (rw [if_neg (by decide +kernel)]; exact ⟨rfl, rfl⟩))
    (fun os started H enc _ F => by rw [OpenClaim.pre_eq_preRow]; exact covers_lifted os started H enc F)
theorem covers_plain (f : FuncId) (fn : Func) (hf : Tryd.pinned.checked.prog.funcNamed "whittle/whittlelaw4.LexCovers" = some f) (hfn : Tryd.pinned.checked.prog.funcs[f]? = some fn) :
    false = Tryd.pinned.checked.prog.looks [] ∧ ∀ (j : Nat) t, fn.params[j]? = some t → Tryd.pinned.checked.prog.wantsStandIn t = false := by
  obtain rfl : f = 8 := Option.some.inj ((show Tryd.prog.funcNamed "whittle/whittlelaw4.LexCovers" = some 8 by kernel_rfl).symm.trans hf) |>.symm
  obtain rfl : fn = Tryd.f8 := (Option.some.inj (Tryd.func8.symm.trans hfn)).symm
  refine ⟨by kernel_rfl, fun j t ht => ?_⟩
  rw [Tryd.params8] at ht
  obtain rfl : t = 9 := by simpa using Array.mem_of_getElem? ht
  exact (show Tryd.prog.wantsStandIn 9 = false by kernel_rfl)
end Go.Proofs.YtceldhkfidmfkaaDoor.L
namespace Go.Proofs.YtceldhkfidmfkaaDoor
theorem lexCovers_card : Rows.LexCoversCardSaid :=
  Claim7.holds_tied_plain_at .later [] _ _ _ _ L.covers_said (fun _ h => by cases h) (by kernel_rfl) (fun _ h => by cases h) lexCovers_row_tie rfl ⟨rfl, rfl⟩ (by kernel_rfl) rfl L.covers_plain (by kernel_rfl)
end Go.Proofs.YtceldhkfidmfkaaDoor
