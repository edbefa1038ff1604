/- lex.Text of scanned tokens; alike; no program here. -/
import Derived.Test.YtceldhkfidmfkaaDoorLx6
import Derived.Test.YtceldhkfidmfkaaDoorEv2
import Derived.Test.YtceldhkfidmfkaaDoorCut
namespace Go.Proofs.YtceldhkfidmfkaaDoor.L
open Go Go.RowKit Go.Proofs.YtceldhkfidmfkaaDoorW.PrintWords Go.Proofs.YtceldhkfidmfkaaDoorW.PrintLast Go.Proofs.YtceldhkfidmfkaaDoorW.PrintMore
open Go.Proofs.YtceldhkfidmfkaaDoor.Plain

theorem able_then' {g : Nat → Option Bool} {r : Bool} (h : Ev g r) : Ev (fun k => (whittlelaw4_able.f k).bind fun t => if t = true then g k else some false) r :=
  Ev.bind able_ev (Ev.congr (f := g) (fun k => by rw [if_pos rfl]) h)
theorem count_sc {p : Nat} {l : List UInt8} {res : Res} (h : Sc p l res) : ∀ ts, res = .ok ts → ts.length ≤ l.length := by
  induction h with
  | nil => intro ts e; cases e; simp
  | @blank p c r res hc _ ih => intro ts e; have := ih ts e; simp; omega
  | @tok p c r t kd n res hc hn _ ih =>
    intro ts e
    have hk := nextS_tok hn
    obtain ⟨l', rfl, rfl⟩ := put_ok e
    have := ih l' rfl
    rw [List.length_drop] at this
    simp only [List.length_cons] at *
    omega
  | err => intro ts e; cases e
theorem pieceB_toS (t : Tk) : pieceB (toS t) = piece t := by
  unfold pieceB piece toS
  simp only [replace_two]
theorem textFrom_toS (ts : List Tk) : ∀ b : Bool, textFrom b (ts.map toS) = textL b ts := by
  induction ts with
  | nil => intro b; rfl
  | cons t ts ih =>
    intro b
    rw [List.map_cons]
    simp only [textFrom, textL]
    rw [pieceB_toS, ih]
theorem dbl_len (u : List UInt8) : u.length ≤ (dbl u).length := by
  induction u with
  | nil => simp
  | cons c u ih => simp only [dbl]; split <;> simp <;> omega
theorem piece_len (t : Tk) : t.2.1.length ≤ (piece t).length := by
  unfold piece
  have := dbl_len t.2.1
  split
  · simp; omega
  · exact Nat.le_refl _
theorem textL_mem {t : Tk} : ∀ {ts : List Tk}, t ∈ ts → (piece t).length ≤ (textL false ts).length
  | u :: ts, h => by
    simp only [textL, List.length_append]
    rcases List.mem_cons.mp h with rfl | h
    · omega
    · have := textL_mem h
      omega
theorem textL_true (ts : List Tk) : (textL true ts).length ≤ (textL false ts).length := by
  cases ts with
  | nil => simp [textL]
  | cons t ts => simp [textL]
theorem text_ok (ts : List Tk) (h : (textL false ts).length ≤ 4096) : textOk (ts.map toS) = true := by
  unfold textOk
  rw [textFrom_toS, Bool.and_eq_true, decide_eq_true_eq, List.all_eq_true]
  have h1 := textL_true ts
  refine ⟨by omega, fun x hx => ?_⟩
  obtain ⟨t, ht, rfl⟩ := List.mem_map.mp hx
  have h2 := textL_mem ht
  have h3 := piece_len t
  rw [decide_eq_true_eq]
  show t.2.1.toArray.size ≤ _
  rw [List.size_toArray]
  omega

theorem rd_get {l : List S31} {j : Nat} (hl : j < l.length) : rd_T31 l (j : Int) = l[j] := by
  unfold rd_T31
  rw [show ((j : Int)).toNat = j by omega, List.getD_eq_getElem?_getD, List.getElem?_eq_getElem hl]
  rfl
theorem alike_ev (a b : List S31) (hl : a.length ≤ 4611686018427387904) (hab : a.map (fun t => (t.f0, t.f1)) = b.map (fun t => (t.f0, t.f1))) (d : Nat) : ∀ j : Nat, j + d = a.length →
    Ev (fun k => whittlelaw4_alike.l0 k a b (j : Int)) true := by
  have hlen : a.length = b.length := by simpa using congrArg List.length hab
  induction d with
  | zero =>
    intro j hj
    exact Ev.step (f := fun _ => some true) (fun k => by simp only [whittlelaw4_alike.l0]; rw [if_neg (by omega)]) (Ev.now _)
  | succ d ih =>
    intro j hj
    have ha : j < a.length := by omega
    have hb : j < b.length := by omega
    have he : (a[j].f0, a[j].f1) = (b[j].f0, b[j].f1) := by
      have := congrArg (·[j]?) hab
      simpa [List.getElem?_eq_getElem ha, List.getElem?_eq_getElem hb] using this
    injection he with e1 e2
    refine Ev.step (f := fun k => whittlelaw4_alike.l0 k a b ((j + 1 : Nat) : Int)) (fun k => ?_) (ih (j + 1) (by omega))
    simp only [whittlelaw4_alike.l0]
    rw [rd_get ha, rd_get hb, if_pos (by omega), if_pos (by omega), if_pos (by omega), if_pos e1, if_pos (by rw [e2]), w64 (x := (j : Int) + 1) (by omega) (by omega)]
    rfl
theorem alike_f (a b : List S31) (hl : a.length ≤ 4611686018427387904) (hab : a.map (fun t => (t.f0, t.f1)) = b.map (fun t => (t.f0, t.f1))) : Ev (fun k => whittlelaw4_alike.f k a b) true :=
  Ev.congr (f := fun k => whittlelaw4_alike.l0 k a b ((0 : Nat) : Int)) (fun k => by
    have hlen : a.length = b.length := by simpa using congrArg List.length hab
    unfold whittlelaw4_alike.f; rw [if_pos (by omega)]; rfl) (alike_ev a b hl hab a.length 0 (by omega))
theorem alike_toS {a b : List Tk} (h : Plain.Alike a b) : (a.map toS).map (fun t => (t.f0, t.f1)) = (b.map toS).map (fun t => (t.f0, t.f1)) := by
  have h2 := congrArg (List.map fun x : Int × List UInt8 => (x.1, (⟨x.2.toArray⟩ : ByteArray))) h
  simpa [List.map_map, Function.comp_def, toS] using h2
end Go.Proofs.YtceldhkfidmfkaaDoor.L
