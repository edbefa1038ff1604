/- PROVED: whittlelaw14.QueuePlays answers true for every input, and what came in reads as it did. -/
import Derived.Test.YtgkbcgmcpbbneaaCrd
import Derived.Test.YtgkbcgmcpbbneaaPy
namespace Go.Proofs.Ytgkbcgmcpbbneaa.Q
open Go Go.ChangeMaps Go.ChangeShapes Go.WideShapes Go.ChangeAt Go.RowKit Go.Proofs.YtgkbcgmcpbbneaaW.PrintWords
set_option maxRecDepth 100000
set_option maxHeartbeats 1600000 in
theorem plays_lifted (os : Os) (started : os.Started) (H : Type) (enc : TypeId × Value → H) :
    ReturnsInHanded {} Try.checked os 5 .any (Rows.queuePlaysSpec.pre6 enc Try.prog Try.f5 Rows.queuePlaysRow.domain false) (Rows.queuePlaysSpec.post enc Try.prog Try.f5 false true false false) := by
  refine returnsInHanded_of_change_shaped (C := Try.checked) own started (by kernel_rfl) Try.func5
    (ChangeSpec.witness6 (enc := enc) (C := Try.checked) false ⟨#[], #[.slice none 0 0], []⟩ 8 (by kernel_rfl) (by kernel_rfl) (by kernel_rfl) (by kernel_rfl)) ?_
  intro W base args ds gs before hval0 hW _ hz _ _
  have hval : ∀ (j : Nat) t v, Try.f5.params[j]? = some t → args[j]? = some v → Value.okWide Try.prog W .any base t v := hval0
  have hW' := hW
  obtain ⟨p, q, hA0, hV, rfl, hfz, hnd⟩ := hW
  have hA : DataW.TrodAll enc Try.prog W 0 (fun _ => true) true Try.f5.params.toList args.toList ds p := hA0
  have hz1 : (DataW.weightsEach Try.prog (Try.f5.params.toList ++ Rows.queuePlaysSpec.plain.varTypes Try.prog) (ds ++ gs)).all (· ≤ reachBytes) = true := hz
  rw [Try.params5] at hA hval hz1
  obtain ⟨v0, d0, rfl, rfl, h0⟩ := trodAll_one hA
  obtain ⟨rfl, rfl⟩ := trodVars_none hV
  obtain ⟨A, len, cap, rfl⟩ := okWide_slice Try.underlying22 (hval 0 22 v0 rfl rfl)
  have lt0 : ∀ x ∈ p, x.block < W.heap.size := by obtain ⟨m, hm⟩ := h0; exact DataW.trod_lt m _ _ _ hm
  have hz' : ∀ n, n ∈ d0.weights Try.prog 22 → n ≤ reachBytes := by
    intro n hn
    rw [List.all_eq_true] at hz1
    have := hz1 n (by simp only [List.cons_append, List.nil_append, DataW.weightsEach, List.mem_append]; exact .inl hn)
    simpa using this
  obtain ⟨l, hl1, hl2, hC, hh, hwf⟩ := script_of h0 hz'
  subst hl1
  refine (plays_contract W A cap l hC hl2 hh hwf).mono fun e W' ⟨he, hb⟩ => ?_
  subst he
  exact ⟨_, rfl, _, _, _, [], _, [], hW', trodAll_mk1 (shut_bool Try.underlying4 _), trodAll_mk1 (Below.trod laidOut (by kernel_rfl) (of_decide_eq_true (by kernel_rfl)) h0 hb lt0), rfl, hb.frame _, fun h => by cases h⟩
theorem plays_said : Rows.QueuePlaysSaid :=
  OpenClaim.holds_of_wide 5 Try.f5 rfl rfl rfl rfl rfl rfl rfl ⟨rfl, rfl, rfl, rfl, rfl⟩ rfl rfl rfl rfl rfl (by kernel_rfl) Try.func5 (by kernel_rfl)
    (of_decide_eq_true (by kernel_rfl)) (by unfold Func.isWrapper; first | (rw [if_pos (by decide +kernel)]; kernel_rfl) | (rw [if_neg (by decide +kernel)]; exact ⟨rfl, rfl⟩))
    (fun os started H enc _ => plays_lifted os started H enc)
end Go.Proofs.Ytgkbcgmcpbbneaa.Q
namespace Go.Proofs.Ytgkbcgmcpbbneaa
theorem queuePlays_holds : Rows.QueuePlaysSaid := Q.plays_said
end Go.Proofs.Ytgkbcgmcpbbneaa
