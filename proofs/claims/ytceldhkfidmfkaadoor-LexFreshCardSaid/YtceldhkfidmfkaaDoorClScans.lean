/- PROVED: whittlelaw4.LexScans answers true for every text: lex.Scan and the document's own Scan answer the same tokens, the same error and the same place. Conditions: those of the card (the listed package-level variables hold what the program's text lays). -/
import Derived.Test.YtceldhkfidmfkaaDoorLx16
import Derived.Test.YtceldhkfidmfkaaDoorEv2
import Derived.Test.YtceldhkfidmfkaaDoorCk
namespace Go.Proofs.YtceldhkfidmfkaaDoor.L
open Go Go.ChangeMaps Go.ChangeShapes Go.WideShapes Go.ChangeAt Go.RowKit Go.Proofs.YtceldhkfidmfkaaDoorW.PrintWords Go.Proofs.YtceldhkfidmfkaaDoorW.PrintLast Go.Proofs.YtceldhkfidmfkaaDoorW.PrintMore
open Go.Proofs.YtceldhkfidmfkaaDoor.Plain
set_option maxRecDepth 100000

theorem Sc.count {p : Nat} {l : List UInt8} {res : Res} (h : Sc p l res) : ∀ ts, res = .ok ts → ts.length ≤ l.length := by
  induction h with
  | nil => intro ts e; cases e; simp
  | @blank p c r res hc _ ih => intro ts e; have := ih ts e; simp; omega
  | @tok p c r t kd n res hc hn _ ih =>
    intro ts e
    have hk := nextS_tok hn
    cases res with
    | ok l' =>
      simp only [Res.put, Res.ok.injEq] at e
      subst e
      have := ih l' rfl
      rw [List.length_drop] at this
      simp only [List.length_cons] at *
      omega
    | err e' p' => cases e
  | err => intro ts e; cases e

/-- The two scanners answer alike. -/
theorem scans_ev (s : ByteArray) : ∃ (l : List S31) (e p : Int), Ev (fun k => lex_Scan.f k s) (l, e, p) ∧ Ev (fun k => whittleref4_Scan.f k s) (l, e, p) ∧ l.length ≤ 1024 := by
  by_cases hs : s.size ≤ 1024
  · obtain ⟨res, hr⟩ := Sc.some s.data.toList 0
    have h1 := lexScan_f s hs hr
    have h2 := refScan_f s hs hr
    cases res with
    | ok ts =>
      have := Sc.count hr ts rfl
      have hsz : s.data.toList.length = s.size := by simp
      exact ⟨_, _, _, h1, h2, by simp; omega⟩
    | err e p => exact ⟨_, _, _, h1, h2, by simp⟩
  · exact ⟨_, _, _, lexScan_long s hs, refScan_long s hs, by simp⟩
theorem scans_true (s : ByteArray) : ∃ k, whittlelaw4_LexScans.f k s = some true := by
  obtain ⟨l, e, p, h1, h2, hl⟩ := scans_ev s
  refine Ev.rounds ?_
  refine Ev.bind h1 (Ev.bind h2 (Ev.bind able_ev ?_))
  refine Ev.congr (f := fun k => (whittlelaw4_same.f k l l).bind fun t => some t) (fun k => ?_) (Ev.bind (same_f l (by omega)) (Ev.now true))
  dsimp only
  rw [if_pos rfl, if_pos rfl, if_pos rfl]

theorem scans_contract (H : Type) (enc : TypeId × Value → H) (W : World) (base : Nat) (args : Array Value) (ds gs : List (DataW H)) (before : List MemPlace)
    (hval : ∀ (j : Nat) t v, Tryd.f3.params[j]? = some t → args[j]? = some v → Value.okWide Tryd.prog W .any base t v)
    (hW : DataW.Whole enc Tryd.prog Tryd.f3.params.toList Rows.lexScansSpec.vars false W args.toList ds gs before) (hL : laidMetH Tryd.prog laidL W) (hsh : W.ShapedOpen Tryd.prog) :
    Calls Tryd.prog 3 args W fun e W' => ∃ v, e = .returned v ∧ Rows.lexScansSpec.post enc Tryd.prog Tryd.f3 false true false false W args v W' := by
  have hW' := hW
  obtain ⟨p, q, hA0, hV, rfl, hfz, hnd⟩ := hW
  have hA : DataW.TrodAll enc Tryd.prog W 0 (fun _ => true) true Tryd.f3.params.toList args.toList ds p := hA0
  rw [Tryd.params3] at hA hval
  obtain ⟨v0, d0, rfl, rfl, h0⟩ := trodAll_one hA
  obtain ⟨rfl, rfl⟩ := trodVars_none hV
  obtain ⟨s, rfl, rfl, rfl, hs⟩ := open_string Tryd.underlying9 (hval 0 9 v0 rfl rfl) h0
  obtain ⟨k, hk⟩ := scans_true s
  refine (whittlelaw4_LexScans.calls k s true W (laidG_of hL hsh) hk).mono fun e W' ⟨he, hb⟩ => ?_
  subst he
  exact ⟨_, rfl, _, _, _, [], [], [], hW', trodAll_mk1 (shut_bool Tryd.underlying4 _), trodAll_mk1 (shut_string Tryd.underlying9 hs), rfl, hb.frame _, fun h => by cases h⟩

theorem scans_reads (os : Os) {H : Type} (enc : TypeId × Value → H) : ∃ places, DataW.whole enc Tryd.prog ((World.laidAll Tryd.prog os laidL).forCall (fun _ _ => 0) ⟨#[], #[.string ⟨#[]⟩], []⟩).memory Tryd.f3.params.toList Rows.lexScansSpec.vars false #[Value.string ⟨#[]⟩].toList 8 = some ([.lit (.string [])], [], places) :=
  ⟨[], by kernel_rfl⟩
theorem scans_lifted (os : Os) (started : os.Started) (H : Type) (enc : TypeId × Value → H) (F : Stop.Interp) :
    ReturnsInHanded {} Tryd.checked os 3 .any ((OpenSpec.ofChange Rows.lexScansSpec).preRow enc Tryd.prog Tryd.f3 Rows.lexScansRow.domain false Rows.lexScansRow.laid) (((OpenSpec.ofChange Rows.lexScansSpec).at F).post enc Tryd.prog Tryd.f3 false true false false) := by
  obtain ⟨places, hx⟩ := scans_reads os enc
  refine returnsInHanded_of_row (C := Tryd.checked) (s := OpenSpec.ofChange Rows.lexScansSpec) own started (by kernel_rfl) Tryd.func3
    (witness_row_at (enc := enc) (C := Tryd.checked) false (World.laidAll Tryd.prog os laidL) #[.string ⟨#[]⟩] (World.laidAll_os _ _ _) (by kernel_rfl) (by kernel_rfl) (by kernel_rfl)
      (OpenSpec.preRow_of_cond 8 hx (by kernel_rfl) (fun k hk => by cases hk) (by kernel_rfl) (laid_met os _))) ?_
  intro W base args ds gs before hval hW _ _ _ hL hsh _
  exact scans_contract H enc W base args ds gs before hval hW hL hsh

theorem scans_said : Rows.LexScansSaid :=
  OpenClaim.holds_of_cond 3 Tryd.f3 rfl rfl rfl rfl rfl rfl rfl ⟨rfl, rfl, rfl, rfl, rfl⟩ rfl rfl rfl rfl rfl (by kernel_rfl) Tryd.func3 (by kernel_rfl)
    (of_decide_eq_true (by kernel_rfl)) (by unfold Func.isWrapper; first | (rw [if_pos (by decide +kernel)]; kernel_rfl) | (rw [if_neg (by decide +kernel)]; exact ⟨rfl, rfl⟩))
    (fun os started H enc _ F => by rw [OpenClaim.pre_eq_preRow]; exact scans_lifted os started H enc F)

theorem scans_plain (f : FuncId) (fn : Func) (hf : Tryd.pinned.checked.prog.funcNamed "whittle/whittlelaw4.LexScans" = some f) (hfn : Tryd.pinned.checked.prog.funcs[f]? = some fn) :
    false = Tryd.pinned.checked.prog.looks [] ∧ ∀ (j : Nat) t, fn.params[j]? = some t → Tryd.pinned.checked.prog.wantsStandIn t = false := by
  obtain rfl : f = 3 := Option.some.inj ((show Tryd.prog.funcNamed "whittle/whittlelaw4.LexScans" = some 3 by kernel_rfl).symm.trans hf) |>.symm
  obtain rfl : fn = Tryd.f3 := (Option.some.inj (Tryd.func3.symm.trans hfn)).symm
  refine ⟨by kernel_rfl, fun j t ht => ?_⟩
  rw [Tryd.params3] at ht
  obtain rfl : t = 9 := by simpa using Array.mem_of_getElem? ht
  exact (show Tryd.prog.wantsStandIn 9 = false by kernel_rfl)
end Go.Proofs.YtceldhkfidmfkaaDoor.L
namespace Go.Proofs.YtceldhkfidmfkaaDoor
theorem lexScans_card : Rows.LexScansCardSaid :=
  Claim7.holds_tied_plain_at .later [] _ _ _ _ L.scans_said (fun _ h => by cases h) (by kernel_rfl) (fun _ h => by cases h) lexScans_row_tie rfl ⟨rfl, rfl⟩ (by kernel_rfl) rfl L.scans_plain (by kernel_rfl)
end Go.Proofs.YtceldhkfidmfkaaDoor
