/- PROVED: whittlelaw4.LexBack answers true for every text: what lex.Text writes of scanned tokens is scanned as them. Conditions: those of the card (the listed package-level variables hold what the program's text lays). -/
import Derived.Test.YtceldhkfidmfkaaDoorLx19
import Derived.Test.YtceldhkfidmfkaaDoorAl
import Derived.Test.YtceldhkfidmfkaaDoorCk
namespace Go.Proofs.YtceldhkfidmfkaaDoor.L
open Go Go.ChangeMaps Go.ChangeShapes Go.WideShapes Go.ChangeAt Go.RowKit Go.Proofs.YtceldhkfidmfkaaDoorW.PrintWords Go.Proofs.YtceldhkfidmfkaaDoorW.PrintLast Go.Proofs.YtceldhkfidmfkaaDoorW.PrintMore
open Go.Proofs.YtceldhkfidmfkaaDoor.Plain
set_option maxRecDepth 100000

theorem back_true (s : ByteArray) : ∃ k, whittlelaw4_LexBack.f k s = some true := by
  refine Ev.rounds ?_
  refine able_then' ?_
  by_cases hs : s.size ≤ 1024
  · obtain ⟨res, hr⟩ := Sc.some s.data.toList 0
    have h1 := lexScan_f s hs hr
    have hsz : s.data.toList.length = s.size := by simp
    cases res with
    | ok ts =>
      have h1' : Ev (fun k => lex_Scan.f k s) (ts.map toS, 0, 0) := h1
      refine Ev.bind h1' ?_
      have hg := Sc.good hr ts rfl
      have hc := count_sc hr ts rfl
      have ht := lexText_f (ts.map toS) (text_ok ts (by omega))
      rw [textFrom_toS] at ht
      have ht' : Ev (fun _ => lex_Text.f (ts.map toS)) ⟨(textL true ts).toArray⟩ := by rw [ht]; exact Ev.now _
      obtain ⟨ts', h4, h5⟩ := Sc.back ts 0 hg.1
      by_cases hT : (textL true ts).length ≤ 1024
      · have h6 := lexScan_f ⟨(textL true ts).toArray⟩ (by show (textL true ts).toArray.size ≤ 1024; rw [List.size_toArray]; exact hT) (res := .ok ts') h4
        have h6' : Ev (fun k => lex_Scan.f k ⟨(textL true ts).toArray⟩) (ts'.map toS, 0, 0) := h6
        refine Ev.congr (f := fun k => (lex_Text.f (ts.map toS)).bind fun t276 => (lex_Scan.f k t276).bind fun bt277 => (if (t276.size : Int) > 1024 then (some (bt277.2.1 == 2)) else (if bt277.2.1 = 0 then ((whittlelaw4_alike.f k (ts.map toS) bt277.1).bind fun t282 => (some t282)) else (some false)))) (fun k => ?_) ?_
        · dsimp only
          rw [if_pos rfl]
        · refine Ev.bind ht' (Ev.bind h6' ?_)
          refine Ev.congr (f := fun k => (whittlelaw4_alike.f k (ts.map toS) (ts'.map toS)).bind fun t282 => some t282) (fun k => ?_) (Ev.bind (alike_f _ _ (by simp; omega) (alike_toS h5)) (Ev.now true))
          dsimp only
          rw [if_neg (by show ¬ (((textL true ts).toArray.size : Nat) : Int) > 1024; rw [List.size_toArray]; omega), if_pos rfl]
      · have h6 := lexScan_long ⟨(textL true ts).toArray⟩ (by show ¬ (textL true ts).toArray.size ≤ 1024; rw [List.size_toArray]; exact hT)
        refine Ev.congr (f := fun k => (lex_Text.f (ts.map toS)).bind fun t276 => (lex_Scan.f k t276).bind fun bt277 => (if (t276.size : Int) > 1024 then (some (bt277.2.1 == 2)) else (if bt277.2.1 = 0 then ((whittlelaw4_alike.f k (ts.map toS) bt277.1).bind fun t282 => (some t282)) else (some false)))) (fun k => ?_) ?_
        · dsimp only
          rw [if_pos rfl]
        · refine Ev.bind ht' (Ev.bind h6 ?_)
          refine Ev.congr (f := fun _ => some true) (fun k => ?_) (Ev.now _)
          dsimp only
          rw [if_pos (by show (((textL true ts).toArray.size : Nat) : Int) > 1024; rw [List.size_toArray]; omega)]
          rfl
    | err e pe =>
      have hb := Sc.err_in hr e pe rfl
      have h1' : Ev (fun k => lex_Scan.f k s) (([] : List S31), e, (pe : Int)) := h1
      refine Ev.bind h1' ?_
      refine Ev.congr (f := fun _ => some true) (fun k => ?_) (Ev.now _)
      dsimp only
      rw [if_neg (by omega)]
      rfl
  · refine Ev.bind (lexScan_long s hs) ?_
    refine Ev.congr (f := fun _ => some true) (fun k => ?_) (Ev.now _)
    dsimp only
    rw [if_neg (by decide)]
    rfl

theorem back_contract (H : Type) (enc : TypeId × Value → H) (W : World) (base : Nat) (args : Array Value) (ds gs : List (DataW H)) (before : List MemPlace)
    (hval : ∀ (j : Nat) t v, Tryd.f6.params[j]? = some t → args[j]? = some v → Value.okWide Tryd.prog W .any base t v)
    (hW : DataW.Whole enc Tryd.prog Tryd.f6.params.toList Rows.lexBackSpec.vars false W args.toList ds gs before) (hL : laidMetH Tryd.prog laidL W) (hsh : W.ShapedOpen Tryd.prog) :
    Calls Tryd.prog 6 args W fun e W' => ∃ v, e = .returned v ∧ Rows.lexBackSpec.post enc Tryd.prog Tryd.f6 false true false false W args v W' := by
  have hW' := hW
  obtain ⟨p, q, hA0, hV, rfl, hfz, hnd⟩ := hW
  have hA : DataW.TrodAll enc Tryd.prog W 0 (fun _ => true) true Tryd.f6.params.toList args.toList ds p := hA0
  rw [Tryd.params6] at hA hval
  obtain ⟨v0, vs0, d0, ds0, p0, q0, hargs, rfl, rfl, h0, r0⟩ := trodAll_cons hA
  obtain ⟨rfl, rfl, rfl⟩ := trodAll_nil r0
  obtain rfl : args = #[v0] := by cases args; simp_all
  obtain ⟨rfl, rfl⟩ := trodVars_none hV
  obtain ⟨x0, rfl, rfl, rfl, w0⟩ := open_string Tryd.underlying9 (hval 0 9 v0 rfl rfl) h0
  simp only [List.append_nil] at hW'
  obtain ⟨k, hk⟩ := back_true x0
  refine (whittlelaw4_LexBack.calls k x0 true W (laidG_of hL hsh) hk).mono fun e W' ⟨he, hb⟩ => ?_
  subst he
  exact ⟨_, rfl, _, _, _, [], [], [], hW', trodAll_mk1 (shut_bool Tryd.underlying4 _), trodAll_cons_mk (shut_string Tryd.underlying9 w0) trodAll_mk0, rfl, hb.frame _, fun h => by cases h⟩

theorem back_reads (os : Os) {H : Type} (enc : TypeId × Value → H) : ∃ places, DataW.whole enc Tryd.prog ((World.laidAll Tryd.prog os laidL).forCall (fun _ _ => 0) ⟨#[], #[.string ⟨#[]⟩], []⟩).memory Tryd.f6.params.toList Rows.lexBackSpec.vars false #[Value.string ⟨#[]⟩].toList 8 = some ([.lit (.string [])], [], places) :=
  ⟨[], by kernel_rfl⟩
theorem back_lifted (os : Os) (started : os.Started) (H : Type) (enc : TypeId × Value → H) (F : Stop.Interp) :
    ReturnsInHanded {} Tryd.checked os 6 .any ((OpenSpec.ofChange Rows.lexBackSpec).preRow enc Tryd.prog Tryd.f6 Rows.lexBackRow.domain false Rows.lexBackRow.laid) (((OpenSpec.ofChange Rows.lexBackSpec).at F).post enc Tryd.prog Tryd.f6 false true false false) := by
  obtain ⟨places, hx⟩ := back_reads os enc
  refine returnsInHanded_of_row (C := Tryd.checked) (s := OpenSpec.ofChange Rows.lexBackSpec) own started (by kernel_rfl) Tryd.func6
    (witness_row_at (enc := enc) (C := Tryd.checked) false (World.laidAll Tryd.prog os laidL) #[.string ⟨#[]⟩] (World.laidAll_os _ _ _) (by kernel_rfl) (by kernel_rfl) (by kernel_rfl)
      (OpenSpec.preRow_of_cond 8 hx (by kernel_rfl) (fun k hk => by cases hk) (by kernel_rfl) (laid_met os _))) ?_
  intro W base args ds gs before hval hW _ _ _ hL hsh _
  exact back_contract H enc W base args ds gs before hval hW hL hsh
theorem back_said : Rows.LexBackSaid :=
  OpenClaim.holds_of_cond 6 Tryd.f6 rfl rfl rfl rfl rfl rfl rfl ⟨rfl, rfl, rfl, rfl, rfl⟩ rfl rfl rfl rfl rfl (by kernel_rfl) Tryd.func6 (by kernel_rfl)
    (of_decide_eq_true (by kernel_rfl)) (by unfold Func.isWrapper; first | (rw [if_pos (by decide +kernel)]; kernel_rfl) | (rw [if_neg (by decide +kernel)]; exact ⟨rfl, rfl⟩))
    (fun os started H enc _ F => by rw [OpenClaim.pre_eq_preRow]; exact back_lifted os started H enc F)
theorem back_plain (f : FuncId) (fn : Func) (hf : Tryd.pinned.checked.prog.funcNamed "whittle/whittlelaw4.LexBack" = some f) (hfn : Tryd.pinned.checked.prog.funcs[f]? = some fn) :
    false = Tryd.pinned.checked.prog.looks [] ∧ ∀ (j : Nat) t, fn.params[j]? = some t → Tryd.pinned.checked.prog.wantsStandIn t = false := by
  obtain rfl : f = 6 := Option.some.inj ((show Tryd.prog.funcNamed "whittle/whittlelaw4.LexBack" = some 6 by kernel_rfl).symm.trans hf) |>.symm
  obtain rfl : fn = Tryd.f6 := (Option.some.inj (Tryd.func6.symm.trans hfn)).symm
  refine ⟨by kernel_rfl, fun j t ht => ?_⟩
  rw [Tryd.params6] at ht
  obtain rfl : t = 9 := by simpa using Array.mem_of_getElem? ht
  exact (show Tryd.prog.wantsStandIn 9 = false by kernel_rfl)
end Go.Proofs.YtceldhkfidmfkaaDoor.L
namespace Go.Proofs.YtceldhkfidmfkaaDoor
theorem lexBack_card : Rows.LexBackCardSaid :=
  Claim7.holds_tied_plain_at .later [] _ _ _ _ L.back_said (fun _ h => by cases h) (by kernel_rfl) (fun _ h => by cases h) lexBack_row_tie rfl ⟨rfl, rfl⟩ (by kernel_rfl) rfl L.back_plain (by kernel_rfl)
end Go.Proofs.YtceldhkfidmfkaaDoor
