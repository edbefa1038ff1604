/- PROVED: whittlelaw4.LexTexts answers true for every list of tokens: lex.Text writes it as the document's own Text does; the list stays, and what stands behind it. Conditions: those of the card (the listed package-level variables hold what the program's text lays). -/
import Derived.Test.YtceldhkfidmfkaaDoorLx17
import Derived.Test.YtceldhkfidmfkaaDoorAl
import Derived.Test.YtceldhkfidmfkaaDoorCk
import Derived.Deep.Slices
import Derived.Deep.Fields
import Derived.ChangeSame
import Derived.Carry
namespace Go.Proofs.YtceldhkfidmfkaaDoor.L
open Go Go.ChangeMaps Go.ChangeShapes Go.WideShapes Go.ChangeAt Go.RowKit Go.Proofs.YtceldhkfidmfkaaDoorW.PrintWords Go.Proofs.YtceldhkfidmfkaaDoorW.PrintLast Go.Proofs.YtceldhkfidmfkaaDoorW.PrintMore
open Go.Proofs.YtceldhkfidmfkaaDoor.Plain
set_option maxRecDepth 100000

/-- Bytes as whole numbers. -/
def en (l : List UInt8) : List Int := l.map fun c => (c.toNat : Int)
theorem en_app (a b : List UInt8) : en (a ++ b) = en a ++ en b := List.map_append
theorem en_len (a : List UInt8) : (en a).length = a.length := List.length_map _
theorem en_bytes (s : ByteArray) : bytesOf s = en s.data.toList := rfl
theorem str_en (l : List UInt8) : strOfNums (en l) = ⟨l.toArray⟩ := strOf_bytes l

theorem quote_l0 (s : ByteArray) (hs : s.size ≤ 1048576) (d : Nat) : ∀ (i : Nat) (acc : List UInt8), i + d = s.size → acc.length ≤ 2 * i + 1 →
    Ev (fun k => whittleref4_Quote.l0 k s (en acc) (i : Int)) ⟨(acc ++ (dbl (dr s (i : Int)) ++ [34])).toArray⟩ := by
  induction d with
  | zero =>
    intro i acc hi ha
    rw [dr_nil (by omega)]
    refine Ev.step (f := fun _ => some (strOfNums (en acc ++ [34]))) (fun k => by simp only [whittleref4_Quote.l0]; rw [if_neg (by omega), if_pos (by rw [en_len]; omega)]) ?_
    have : en acc ++ [34] = en (acc ++ [34]) := by rw [en_app]; rfl
    rw [this, str_en]
    exact Ev.now _
  | succ d ih =>
    intro i acc hi ha
    obtain ⟨c, hc, hb⟩ := dr_cons (s := s) (i := (i : Int)) (by omega) (by omega)
    have e1 : dr s ((i + 1 : Nat) : Int) = dr s ((i : Int) + 1) := rfl
    have hw : wrap64 ((i : Int) + 1) = ((i + 1 : Nat) : Int) := by rw [w64 (x := (i : Int) + 1) (by omega) (by omega)]; rfl
    have hl := en_len acc
    by_cases h34 : c = 34
    · have h := ih (i + 1) (acc ++ [34, 34]) (by omega) (by simp; omega)
      have he : en (acc ++ [34, 34]) = (en acc ++ [34]) ++ [34] := by rw [en_app]; simp [en]
      rw [hc, h34, dbl_quote]
      rw [e1, List.append_assoc] at h
      refine Ev.step (f := fun k => whittleref4_Quote.l0 k s (en (acc ++ [34, 34])) ((i + 1 : Nat) : Int)) (fun k => ?_) h
      simp only [whittleref4_Quote.l0]
      rw [if_pos (by omega), if_pos (by omega), hb, if_pos (c34.mpr h34), if_pos (by omega), hw, he]
      rw [Option.bind_some, if_pos (by rw [List.length_append]; simp; omega), h34]
      rfl
    · have h := ih (i + 1) (acc ++ [c]) (by omega) (by simp; omega)
      have he : en (acc ++ [c]) = en acc ++ [(c.toNat : Int)] := by rw [en_app]; rfl
      rw [hc, dbl_other _ h34]
      rw [e1, List.append_assoc] at h
      refine Ev.step (f := fun k => whittleref4_Quote.l0 k s (en (acc ++ [c])) ((i + 1 : Nat) : Int)) (fun k => ?_) h
      simp only [whittleref4_Quote.l0]
      rw [if_pos (by omega), if_pos (by omega), hb, if_neg (fun h => h34 (c34.mp h)), if_pos (by omega), hw, he]
theorem quote_f (s : ByteArray) (hs : s.size ≤ 1048576) : Ev (fun k => whittleref4_Quote.f k s) ⟨(34 :: (dbl s.data.toList ++ [34])).toArray⟩ := by
  have h := quote_l0 s hs s.size 0 [34] (by omega) (by simp)
  rw [dr_zero] at h
  exact Ev.congr (f := fun k => whittleref4_Quote.l0 k s (en [34]) ((0 : Nat) : Int)) (fun k => by unfold whittleref4_Quote.f; rw [if_pos (by decide)]; rfl) h

theorem refText_l0 (l : List S31) (hl : l.length ≤ 1048576) (hsz : ∀ t, t ∈ l → t.f1.size ≤ 1048576) (d : Nat) : ∀ (j : Nat) (acc : List UInt8), j + d = l.length → acc.length + (textFrom (decide (j = 0)) (l.drop j)).length ≤ 1099511627776 →
    Ev (fun k => whittleref4_Text.l0 k l (en acc) (j : Int)) ⟨(acc ++ textFrom (decide (j = 0)) (l.drop j)).toArray⟩ := by
  induction d with
  | zero =>
    intro j acc hj ha
    refine Ev.step (f := fun _ => some (strOfNums (en acc))) (fun k => by simp only [whittleref4_Text.l0]; rw [if_neg (by omega)]) ?_
    rw [List.drop_eq_nil_iff.mpr (by omega), str_en]
    simp only [textFrom, List.append_nil]
    exact Ev.now _
  | succ d ih =>
    intro j acc hj ha
    have hjl : j < l.length := by omega
    have hrd : rd_T31 l (j : Int) = l[j] := rd_get hjl
    have hdrop : l.drop j = l[j] :: l.drop (j + 1) := List.drop_eq_getElem_cons hjl
    have hw : wrap64 ((j : Int) + 1) = ((j + 1 : Nat) : Int) := by rw [w64 (x := (j : Int) + 1) (by omega) (by omega)]; rfl
    have hs1 := hsz l[j] (List.getElem_mem hjl)
    have hnz : decide (j + 1 = 0) = false := decide_eq_false (by omega)
    rw [hdrop] at ha ⊢
    generalize hsep : (if decide (j = 0) = true then ([] : List UInt8) else [32]) = sep
    have htf : textFrom (decide (j = 0)) (l[j] :: l.drop (j + 1)) = sep ++ (pieceB l[j] ++ textFrom false (l.drop (j + 1))) := by rw [← hsep]; rfl
    rw [htf] at ha ⊢
    simp only [List.length_append] at ha
    have hnext := ih (j + 1) (acc ++ (sep ++ pieceB l[j])) (by omega) (by rw [hnz]; simp only [List.length_append]; omega)
    rw [hnz] at hnext
    have hass : acc ++ (sep ++ pieceB l[j]) ++ textFrom false (l.drop (j + 1)) = acc ++ (sep ++ (pieceB l[j] ++ textFrom false (l.drop (j + 1)))) := by simp
    rw [hass] at hnext
    have hen : en (acc ++ (sep ++ pieceB l[j])) = en (acc ++ sep) ++ en (pieceB l[j]) := by rw [← List.append_assoc, en_app]
    have hla := en_len acc
    have hls : (en (acc ++ sep)).length = acc.length + sep.length := by rw [en_len, List.length_append]
    -- the token's own bytes
    have hp : Ev (fun k => if l[j].f0 = 2 then ((whittleref4_Quote.f k l[j].f1).bind fun t159 => (if (en (acc ++ sep)).length + t159.size < 140737488355328 then (whittleref4_Text.l0 k l (en (acc ++ sep) ++ bytesOf t159) ((j + 1 : Nat) : Int)) else (none)))
        else (if (en (acc ++ sep)).length + l[j].f1.size < 140737488355328 then (whittleref4_Text.l0 k l (en (acc ++ sep) ++ bytesOf l[j].f1) ((j + 1 : Nat) : Int)) else (none)))
        ⟨(acc ++ (sep ++ (pieceB l[j] ++ textFrom false (l.drop (j + 1))))).toArray⟩ := by
      by_cases h2 : l[j].f0 = 2
      · have hpb : pieceB l[j] = 34 :: (dbl l[j].f1.data.toList ++ [34]) := by unfold pieceB; rw [if_pos h2, replace_two]
        refine Ev.congr (f := fun k => (whittleref4_Quote.f k l[j].f1).bind fun t159 => (if (en (acc ++ sep)).length + t159.size < 140737488355328 then (whittleref4_Text.l0 k l (en (acc ++ sep) ++ bytesOf t159) ((j + 1 : Nat) : Int)) else (none))) (fun k => by rw [if_pos h2]) ?_
        refine Ev.bind (quote_f l[j].f1 hs1) ?_
        refine Ev.congr (f := fun k => whittleref4_Text.l0 k l (en (acc ++ (sep ++ pieceB l[j]))) ((j + 1 : Nat) : Int)) (fun k => ?_) hnext
        have hqs : (⟨(34 :: (dbl l[j].f1.data.toList ++ [34])).toArray⟩ : ByteArray).size = (pieceB l[j]).length := by rw [hpb]; exact List.size_toArray
        rw [if_pos (by rw [hqs]; omega), en_bytes, hen, hpb]
      · have hpb : pieceB l[j] = l[j].f1.data.toList := by unfold pieceB; rw [if_neg h2]
        refine Ev.congr (f := fun k => whittleref4_Text.l0 k l (en (acc ++ (sep ++ pieceB l[j]))) ((j + 1 : Nat) : Int)) (fun k => ?_) hnext
        rw [if_neg h2, if_pos (by omega), en_bytes, hen, hpb]
    by_cases h0 : j = 0
    · have hs0 : sep = [] := by rw [← hsep, if_pos (decide_eq_true h0)]
      refine Ev.step (fun k => ?_) hp
      simp only [whittleref4_Text.l0]
      rw [if_pos (by omega), if_neg (by omega), if_pos (by omega), hrd, hw, hs0, List.append_nil]
    · have hs1' : sep = [32] := by rw [← hsep, if_neg (by rw [decide_eq_false h0]; decide)]
      have hes : en (acc ++ sep) = en acc ++ [32] := by rw [en_app, hs1']; rfl
      refine Ev.step (fun k => ?_) hp
      simp only [whittleref4_Text.l0]
      rw [if_pos (by omega), if_pos (by omega), if_pos (by omega), Option.bind_some, if_pos (by omega), hrd, hw, hes]
theorem refText_f (l : List S31) (hl : l.length ≤ 1048576) (hsz : ∀ t, t ∈ l → t.f1.size ≤ 1048576) (hb : (textFrom true l).length ≤ 1099511627776) :
    Ev (fun k => whittleref4_Text.f k l) ⟨(textFrom true l).toArray⟩ := by
  have h := refText_l0 l hl hsz l.length 0 [] (Nat.zero_add _) (by simpa using hb)
  have h' : Ev (fun k => whittleref4_Text.l0 k l (en []) ((0 : Nat) : Int)) ⟨(textFrom true l).toArray⟩ := h
  exact Ev.congr (f := fun k => whittleref4_Text.l0 k l (en []) ((0 : Nat) : Int)) (fun k => rfl) h'

/-- The tokens' weight. -/
def wt : List S31 → Nat
  | [] => 0
  | t :: ts => t.f1.size + wt ts
theorem wt_mem {t : S31} : ∀ {l : List S31}, t ∈ l → t.f1.size ≤ wt l
  | u :: l, h => by
    simp only [wt]
    rcases List.mem_cons.mp h with rfl | h
    · omega
    · have := wt_mem h; omega
theorem dbl_bound (u : List UInt8) : (dbl u).length ≤ 2 * u.length := by
  induction u with
  | nil => simp [dbl]
  | cons c u ih => simp only [dbl]; split <;> simp <;> omega
theorem piece_le (t : S31) : (pieceB t).length ≤ 2 * t.f1.size + 2 := by
  unfold pieceB
  have h := dbl_bound t.f1.data.toList
  have hs : t.f1.data.toList.length = t.f1.size := by simp
  split
  · rw [replace_two]; simp; omega
  · omega
theorem text_le (l : List S31) : ∀ b, (textFrom b l).length ≤ 2 * wt l + 3 * l.length := by
  induction l with
  | nil => intro b; simp [textFrom]
  | cons t l ih =>
    intro b
    have h1 := piece_le t
    have h2 := ih false
    have h3 : (if b = true then ([] : List UInt8) else [32]).length ≤ 1 := by split <;> simp
    simp only [textFrom, List.length_append, wt, List.length_cons]
    omega
theorem weight_l0 (l : List S31) (hl : l.length ≤ 140737488355328) (hsz : ∀ t, t ∈ l → t.f1.size ≤ 140737488355328) (d : Nat) : ∀ (j n : Nat), j + d = l.length → n ≤ 281474976710656 →
    ∃ r : Nat, Ev (fun k => whittlelaw4_weight.l0 k l (n : Int) (j : Int)) (r : Int) ∧ n ≤ r ∧ (r ≤ 262144 → r = n + wt (l.drop j)) := by
  induction d with
  | zero =>
    intro j n hj hn
    refine ⟨n, Ev.step (f := fun _ => some (n : Int)) (fun k => by simp only [whittlelaw4_weight.l0]; rw [if_neg (by omega)]) (Ev.now _), Nat.le_refl _, fun _ => ?_⟩
    rw [List.drop_eq_nil_iff.mpr (by omega)]
    rfl
  | succ d ih =>
    intro j n hj hn
    have hjl : j < l.length := by omega
    have hrd : rd_T31 l (j : Int) = l[j] := rd_get hjl
    have hs1 := hsz l[j] (List.getElem_mem hjl)
    by_cases hlim : n ≤ 262144
    · obtain ⟨r, h1, h2, h3⟩ := ih (j + 1) (n + l[j].f1.size) (by omega) (by omega)
      refine ⟨r, Ev.step (f := fun k => whittlelaw4_weight.l0 k l ((n + l[j].f1.size : Nat) : Int) ((j + 1 : Nat) : Int)) (fun k => ?_) h1, by omega, fun hr => ?_⟩
      · simp only [whittlelaw4_weight.l0]
        rw [if_pos (by omega), if_pos (by omega), if_pos (by omega), hrd, w64 (x := (n : Int) + (l[j].f1.size : Int)) (by omega) (by omega), w64 (x := (j : Int) + 1) (by omega) (by omega)]
        rfl
      · rw [List.drop_eq_getElem_cons hjl]
        simp only [wt]
        have := h3 hr
        omega
    · refine ⟨n, Ev.step (f := fun _ => some (n : Int)) (fun k => by simp only [whittlelaw4_weight.l0]; rw [if_pos (by omega), if_neg (by omega)]) (Ev.now _), Nat.le_refl _, fun h => by omega⟩
theorem texts_true (l : List S31) (hl : l.length ≤ 140737488355328) (hsz : ∀ t, t ∈ l → t.f1.size ≤ 140737488355328) : ∃ k, whittlelaw4_LexTexts.f k l = some true := by
  refine Ev.rounds ?_
  obtain ⟨r, h1, h2, h3⟩ := weight_l0 l hl hsz l.length 0 l.length (Nat.zero_add _) (by omega)
  have h1' : Ev (fun k => whittlelaw4_weight.f k l) (r : Int) := h1
  refine Ev.bind h1' ?_
  by_cases hr : r ≤ 262144
  · have hw := h3 hr
    rw [List.drop_zero] at hw
    have hm : ∀ t, t ∈ l → t.f1.size ≤ 1048576 := fun t ht => by have := wt_mem ht; omega
    have htl := text_le l true
    have hok : textOk l = true := by
      unfold textOk
      rw [Bool.and_eq_true, decide_eq_true_eq, List.all_eq_true]
      exact ⟨by omega, fun t ht => by rw [decide_eq_true_eq]; have := hm t ht; omega⟩
    have ht1 := lexText_f l hok
    have ht2 := refText_f l (by omega) hm (by omega)
    have hs := same_f l (by omega)
    generalize hz : ([⟨0, ⟨#[]⟩, 77⟩, ⟨0, ⟨#[]⟩, 78⟩] : List S31) = z
    have hzl : z.length = 2 := by rw [← hz]; rfl
    have htake : (l ++ z).take ((l.length : Int)).toNat = l := by rw [show ((l.length : Int)).toNat = l.length by omega, List.take_left]
    have hlen : ((l ++ z).length : Int) = (l.length : Int) + 2 := by rw [List.length_append, hzl]; rfl
    have hr0 : (rd_T31 (l ++ z) (l.length : Int)).f2 = 77 := by
      rw [rd_get (l := l ++ z) (j := l.length) (by rw [List.length_append]; omega), List.getElem_append_right (Nat.le_refl _)]
      subst hz
      simp
    have hr1 : (rd_T31 (l ++ z) ((l.length + 1 : Nat) : Int)).f2 = 78 := by
      rw [rd_get (l := l ++ z) (j := l.length + 1) (by rw [List.length_append]; omega), List.getElem_append_right (Nat.le_succ _)]
      subst hz
      simp
    have hwr : wrap64 ((l.length : Int) + 1) = ((l.length + 1 : Nat) : Int) := by rw [w64 (x := (l.length : Int) + 1) (by omega) (by omega)]; rfl
    have ht1' : Ev (fun _ => lex_Text.f l) ⟨(textFrom true l).toArray⟩ := by rw [ht1]; exact Ev.now _
    have key : Ev (fun k => (lex_Text.f l).bind fun t234 => (whittlelaw4_able.f k).bind fun t235 => (if t235 = true then ((whittleref4_Text.f k l).bind fun t236 => (if t234.toList = t236.toList then ((whittlelaw4_same.f k l l).bind fun t241 => (if t241 = true then some true else (some false))) else (some false))) else (some false))) true := by
      refine Ev.bind ht1' (able_then' (Ev.bind ht2 ?_))
      refine Ev.congr (f := fun k => (whittlelaw4_same.f k l l).bind fun t241 => (if t241 = true then some true else (some false))) (fun k => by rw [if_pos rfl]) ?_
      exact Ev.bind hs (Ev.now true)
    refine Ev.congr (fun k => ?_) key
    rw [if_neg (by omega), Option.bind_some, List.nil_append, if_pos (by simp only [List.length_nil]; omega), Option.bind_some, Option.bind_some, if_pos (by omega), Option.bind_some,
      if_pos (by omega), if_pos (by omega), htake]
    congr 1
    funext t234
    congr 1
    funext t235
    by_cases hb1 : t235 = true
    · rw [if_pos hb1, if_pos hb1]
      congr 1
      funext t236
      by_cases hb2 : t234.toList = t236.toList
      · rw [if_pos hb2, if_pos hb2]
        congr 1
        funext t241
        by_cases hb3 : t241 = true
        · rw [if_pos hb3, if_pos hb3, if_pos (by omega), if_pos hr0, hwr, if_pos (by omega), if_pos (by omega), hr1]
          rfl
        · rw [if_neg hb3, if_neg hb3]
      · rw [if_neg hb2, if_neg hb2]
    · rw [if_neg hb1, if_neg hb1]
  · refine Ev.congr (f := fun _ => some true) (fun k => ?_) (Ev.now _)
    rw [if_pos (by omega)]
theorem take_one {cs : List Value} {k : Nat} {v : Value} (h : (cs.drop k).take 1 = [v]) : cs[k]? = some v := by
  have := congrArg (·[0]?) h
  simpa [List.getElem?_take, List.getElem?_drop] using this
theorem laidOut : laidOutB Tryd.prog = true := by kernel_rfl
theorem cellsOf31 : Tryd.prog.cellsOf 31 = 3 := by kernel_rfl
theorem cellsOf3 : Tryd.prog.cellsOf 3 = 1 := by kernel_rfl
theorem cellsOf9 : Tryd.prog.cellsOf 9 = 1 := by kernel_rfl
theorem weightsAll_mem {H : Type} {P : Program} {e : TypeId} {d : DataW H} {n : Nat} (hn : n ∈ d.weights P e) : ∀ {l : List (DataW H)}, d ∈ l → n ∈ DataW.weightsAll P e l
  | u :: l, h => by
    simp only [DataW.weightsAll, List.mem_append]
    rcases List.mem_cons.mp h with rfl | h
    · exact .inl hn
    · exact .inr (weightsAll_mem hn h)
/-- A list of tokens that comes in. -/
theorem tokens_of {H : Type} {enc : TypeId × Value → H} {W : World} {A : Option Addr} {len cap : Nat} {d : DataW H} {p : List MemPlace} (k0 : DataW.Trod enc Tryd.prog W 0 (fun _ => true) true 22 (.slice A len cap) d p)
    (hw : ∀ n, n ∈ d.weights Tryd.prog 22 → n ≤ reachBytes) :
    ∃ l : List S31, l.length = len ∧ len ≤ cap ∧ len ≤ reachBytes ∧ Kd.C k31 W A l.length l ∧ ∀ t, t ∈ l → t.f1.size ≤ reachBytes := by
  obtain ⟨fuel, hf⟩ := k0
  rcases Deep.open_slice Tryd.underlying22 hf with ⟨hcs, _⟩ | ⟨a, len', cap', m, n, D, Pl, hcs, hb, hl, hm, hmm, hx, hi⟩
  · simp [Value.cells] at hcs
    obtain ⟨rfl, rfl, rfl⟩ := hcs
    exact ⟨[], rfl, Nat.le_refl _, Nat.zero_le _, Kd.C_nil _ _, fun t h => by cases h⟩
  · simp [Value.cells] at hcs
    obtain ⟨rfl, rfl, rfl⟩ := hcs
    have hmc : m = cap := by simpa using hmm
    obtain ⟨hd, _⟩ := Prod.mk.inj hx
    have hbytes : Tryd.prog.bytesOf 31 = 32 := by kernel_rfl
    have hwd : ∀ n, n ∈ ((len + (m - len)) * 32 :: (DataW.weightsAll Tryd.prog 31 ((List.range len).map D) ++ DataW.weightsAll Tryd.prog 31 ((List.range (m - len)).map fun j => D (len + j)))) → n ≤ reachBytes := by
      intro n hn
      apply hw
      rw [hd]
      simp only [DataW.weights, Tryd.underlying22, hbytes, List.length_map, List.length_range]
      exact hn
    have hlen1 := hwd _ List.mem_cons_self
    have hrb : reachBytes = 140737488351232 := rfl
    have hone : ∀ i, i < len → ∃ x : S31, W.cell? (a.add (i * 3 + 0)) = some (.int .i64 x.f0) ∧ W.cell? (a.add (i * 3 + 1)) = some (.string x.f1) ∧ W.cell? (a.add (i * 3 + 2)) = some (.int .i64 x.f2) ∧ x.f1.size ≤ reachBytes := by
      intro i hil
      obtain ⟨cs', hc, ht'⟩ := hi i (by omega)
      rw [cellsOf31] at hc
      obtain ⟨xs, n', _, hxe, _, hxl, hg⟩ := DataW.trod_struct Tryd.underlying31 ht'
      obtain ⟨_, hcl, hat⟩ := World.cells?_some hc
      have hx3 : xs.length = 3 := hxl
      have g0 := hg 0 _ rfl
      have g1 := hg 1 _ rfl
      have g2 := hg 2 _ rfl
      match xs, hx3 with
      | [x0, x1, x2], _ =>
        obtain ⟨n0, e0, _, _⟩ := DataW.trod_int Tryd.underlying3 g0
        obtain ⟨s1, e1, hs1, _⟩ := DataW.trod_string Tryd.underlying9 g1
        obtain ⟨n2, e2, _, _⟩ := DataW.trod_int Tryd.underlying3 g2
        have e0' : (cs'.drop 0).take (Tryd.prog.cellsOf 3) = [.int .i64 n0] := e0
        have e1' : (cs'.drop 1).take (Tryd.prog.cellsOf 9) = [.string s1] := e1
        have e2' : (cs'.drop 2).take (Tryd.prog.cellsOf 3) = [.int .i64 n2] := e2
        rw [cellsOf3] at e0' e2'
        rw [cellsOf9] at e1'
        have c0 := take_one e0'
        have c1 := take_one e1'
        have c2 := take_one e2'
        have hadd : ∀ j, (a.add (i * 3)).add j = a.add (i * 3 + j) := fun j => Deep.add_add _ _ _
        refine ⟨⟨n0, s1, n2⟩, ?_, ?_, ?_, ?_⟩
        · rw [← hadd, hat 0 (by omega)]; exact c0
        · rw [← hadd, hat 1 (by omega)]; exact c1
        · rw [← hadd, hat 2 (by omega)]; exact c2
        · obtain ⟨hDi, _⟩ := Prod.mk.inj hxe
          apply hwd
          refine List.mem_cons_of_mem _ (List.mem_append_left _ (weightsAll_mem (d := D i) ?_ (List.mem_map.mpr ⟨i, List.mem_range.mpr hil, rfl⟩)))
          rw [hDi]
          simp only [DataW.weights, Tryd.underlying31, List.map_cons, List.map_nil, DataW.weightsEach, hs1, List.mem_append, List.mem_singleton]
          exact .inr (.inl (by simp))
    have hgen : ∀ n, n ≤ len → ∃ l : List S31, l.length = n ∧ ∀ i (h : i < l.length), W.cell? (a.add (i * 3 + 0)) = some (.int .i64 l[i].f0) ∧ W.cell? (a.add (i * 3 + 1)) = some (.string l[i].f1) ∧ W.cell? (a.add (i * 3 + 2)) = some (.int .i64 l[i].f2) ∧ l[i].f1.size ≤ reachBytes := by
      intro n
      induction n with
      | zero => intro _; exact ⟨[], rfl, fun i h => absurd h (Nat.not_lt_zero _)⟩
      | succ n ih =>
        intro hn
        obtain ⟨l, hl1, hl2⟩ := ih (by omega)
        obtain ⟨x, hx⟩ := hone n (by omega)
        refine ⟨l ++ [x], by simp [hl1], fun i h => ?_⟩
        by_cases hin : i < l.length
        · rw [List.getElem_append_left hin]
          exact hl2 i hin
        · have hi2 : i = n := by simp at h; omega
          rw [List.getElem_append_right (by omega)]
          subst hi2
          simpa [hl1] using hx
    obtain ⟨l, hl1, hl2⟩ := hgen len (Nat.le_refl _)
    refine ⟨l, hl1, hl, by omega, ⟨rfl, by omega, fun _ => ⟨a, rfl, fun j p hj => ?_⟩⟩, fun t ht => ?_⟩
    · obtain ⟨hjl, rfl⟩ := List.getElem?_eq_some_iff.mp hj
      obtain ⟨h0, h1, h2, _⟩ := hl2 j hjl
      refine ⟨[.int .i64 l[j].f0, .string l[j].f1, .int .i64 l[j].f2], rfl, k31_mk W _, fun i u hu => ?_⟩
      match i, hu with
      | 0, hu => cases hu; exact h0
      | 1, hu => cases hu; exact h1
      | 2, hu => cases hu; exact h2
    · obtain ⟨i, hi3, rfl⟩ := List.getElem_of_mem ht
      exact (hl2 i hi3).2.2.2

theorem texts_contract (H : Type) (enc : TypeId × Value → H) (W : World) (base : Nat) (args : Array Value) (ds gs : List (DataW H)) (before : List MemPlace)
    (hval : ∀ (j : Nat) t v, Tryd.f4.params[j]? = some t → args[j]? = some v → Value.okWide Tryd.prog W .any base t v)
    (hW : DataW.Whole enc Tryd.prog Tryd.f4.params.toList Rows.lexTextsSpec.vars false W args.toList ds gs before) (hz : (DataW.weightsEach Tryd.prog (Tryd.f4.params.toList ++ (OpenSpec.ofChange Rows.lexTextsSpec).bare.plain.varTypes Tryd.prog) (ds ++ gs)).all (· ≤ reachBytes) = true) (hL : laidMetH Tryd.prog laidL W) (hsh : W.ShapedOpen Tryd.prog) :
    Calls Tryd.prog 4 args W fun e W' => ∃ v, e = .returned v ∧ Rows.lexTextsSpec.post enc Tryd.prog Tryd.f4 false true false false W args v W' := by
  have hW' := hW
  obtain ⟨p, q, hA0, hV, rfl, hfz, hnd⟩ := hW
  have hA : DataW.TrodAll enc Tryd.prog W 0 (fun _ => true) true Tryd.f4.params.toList args.toList ds p := hA0
  rw [Tryd.params4] at hA hval hz
  obtain ⟨v0, d0, rfl, rfl, h0⟩ := trodAll_one hA
  obtain ⟨rfl, rfl⟩ := trodVars_none hV
  obtain ⟨A, len, cap, rfl⟩ := okWide_slice Tryd.underlying22 (hval 0 22 v0 rfl rfl)
  have lt0 : ∀ x ∈ p, x.block < W.heap.size := by obtain ⟨m, hm⟩ := h0; exact DataW.trod_lt m _ _ _ hm
  have hz' : ∀ n, n ∈ d0.weights Tryd.prog 22 → n ≤ reachBytes := by
    intro n hn
    rw [List.all_eq_true] at hz
    have := hz n (by simp only [List.cons_append, List.nil_append, DataW.weightsEach, List.mem_append]; exact .inl hn)
    simpa using this
  obtain ⟨l, hl1, hl2, hl3, hC, hsz⟩ := tokens_of h0 hz'
  subst hl1
  have hm : reachBytes = 140737488351232 := rfl
  obtain ⟨k, hk⟩ := texts_true l (by omega) (fun t ht => by have := hsz t ht; omega)
  refine (whittlelaw4_LexTexts.calls k A cap l true W (laidG_of hL hsh) hC hl2 hk).mono fun e W' ⟨he, hb⟩ => ?_
  subst he
  exact ⟨_, rfl, _, _, _, [], _, [], hW', trodAll_mk1 (shut_bool Tryd.underlying4 _), trodAll_mk1 (Below.trod laidOut (by kernel_rfl) (of_decide_eq_true (by kernel_rfl)) h0 hb lt0), rfl, hb.frame _, fun h => by cases h⟩

theorem texts_reads (os : Os) {H : Type} (enc : TypeId × Value → H) : ∃ places, DataW.whole enc Tryd.prog ((World.laidAll Tryd.prog os laidL).forCall (fun _ _ => 0) ⟨#[], #[.slice none 0 0], []⟩).memory Tryd.f4.params.toList Rows.lexTextsSpec.vars false #[Value.slice none 0 0].toList 8 = some ([.nil], [], places) :=
  ⟨[], by kernel_rfl⟩
theorem texts_lifted (os : Os) (started : os.Started) (H : Type) (enc : TypeId × Value → H) (F : Stop.Interp) :
    ReturnsInHanded {} Tryd.checked os 4 .any ((OpenSpec.ofChange Rows.lexTextsSpec).preRow enc Tryd.prog Tryd.f4 Rows.lexTextsRow.domain false Rows.lexTextsRow.laid) (((OpenSpec.ofChange Rows.lexTextsSpec).at F).post enc Tryd.prog Tryd.f4 false true false false) := by
  obtain ⟨places, hx⟩ := texts_reads os enc
  refine returnsInHanded_of_row (C := Tryd.checked) (s := OpenSpec.ofChange Rows.lexTextsSpec) own started (by kernel_rfl) Tryd.func4
    (witness_row_at (enc := enc) (C := Tryd.checked) false (World.laidAll Tryd.prog os laidL) #[.slice none 0 0] (World.laidAll_os _ _ _) (by kernel_rfl) (by kernel_rfl) (by kernel_rfl)
      (OpenSpec.preRow_of_cond 8 hx (by kernel_rfl) (fun k hk => by cases hk) (by kernel_rfl) (laid_met os _))) ?_
  intro W base args ds gs before hval hW _ _ hz hL hsh _
  exact texts_contract H enc W base args ds gs before hval hW hz hL hsh
theorem texts_said : Rows.LexTextsSaid :=
  OpenClaim.holds_of_cond 4 Tryd.f4 rfl rfl rfl rfl rfl rfl rfl ⟨rfl, rfl, rfl, rfl, rfl⟩ rfl rfl rfl rfl rfl (by kernel_rfl) Tryd.func4 (by kernel_rfl)
    (of_decide_eq_true (by kernel_rfl)) (by unfold Func.isWrapper; first | (rw [if_pos (by decide +kernel)]; kernel_rfl) | (rw [if_neg (by decide +kernel)]; exact ⟨rfl, rfl⟩))
    (fun os started H enc _ F => by rw [OpenClaim.pre_eq_preRow]; exact texts_lifted os started H enc F)
theorem texts_plain (f : FuncId) (fn : Func) (hf : Tryd.pinned.checked.prog.funcNamed "whittle/whittlelaw4.LexTexts" = some f) (hfn : Tryd.pinned.checked.prog.funcs[f]? = some fn) :
    false = Tryd.pinned.checked.prog.looks [] ∧ ∀ (j : Nat) t, fn.params[j]? = some t → Tryd.pinned.checked.prog.wantsStandIn t = false := by
  obtain rfl : f = 4 := Option.some.inj ((show Tryd.prog.funcNamed "whittle/whittlelaw4.LexTexts" = some 4 by kernel_rfl).symm.trans hf) |>.symm
  obtain rfl : fn = Tryd.f4 := (Option.some.inj (Tryd.func4.symm.trans hfn)).symm
  refine ⟨by kernel_rfl, fun j t ht => ?_⟩
  rw [Tryd.params4] at ht
  obtain rfl : t = 22 := by simpa using Array.mem_of_getElem? ht
  exact (show Tryd.prog.wantsStandIn 22 = false by kernel_rfl)
end Go.Proofs.YtceldhkfidmfkaaDoor.L
namespace Go.Proofs.YtceldhkfidmfkaaDoor
theorem lexTexts_card : Rows.LexTextsCardSaid :=
  Claim7.holds_tied_plain_at .later [] _ _ _ _ L.texts_said (fun _ h => by cases h) (by kernel_rfl) (fun _ h => by cases h) lexTexts_row_tie rfl ⟨rfl, rfl⟩ (by kernel_rfl) rfl L.texts_plain (by kernel_rfl)
end Go.Proofs.YtceldhkfidmfkaaDoor
