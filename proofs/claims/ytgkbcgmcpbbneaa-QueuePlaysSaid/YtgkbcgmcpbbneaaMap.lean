/- The map of the queue (keys: cells, elements: levels) as a list of cells with levels: what each operation on the map makes of the list. -/
import Derived.Test.YtgkbcgmcpbbneaaQx
import Derived.Maps.OwnSet
import Derived.Maps.OwnOps
import Derived.Maps.RangeWalk
import Derived.DeepKeys4
import Derived.KernelRfl
namespace Go.Proofs.Ytgkbcgmcpbbneaa.Q
open Go Go.RowKit Go.Maps Go.Proofs.YtgkbcgmcpbbneaaW.PrintWords Go.Proofs.YtgkbcgmcpbbneaaW.PrintLast Go.Proofs.YtgkbcgmcpbbneaaW.PrintMore
set_option maxRecDepth 100000
set_option linter.unusedVariables false
set_option linter.unusedSimpArgs false

instance : DecidableEq S30 := fun a b =>
  if h : a.f0 = b.f0 ∧ a.f1 = b.f1 ∧ a.f2 = b.f2 then isTrue (by cases a; cases b; simp_all) else isFalse (fun e => h (by subst e; exact ⟨rfl, rfl, rfl⟩))
def Wf (n : Int) : Prop := (Lit.int .i64 n).wf = true
def Wc (c : S30) : Prop := Wf c.f0 ∧ Wf c.f1 ∧ Wf c.f2
def cv (c : S30) : Value := .agg #[.int .i64 c.f0, .int .i64 c.f1, .int .i64 c.f2]
def kL (c : S30) : Lit := .string (keyBytes [.int .i64 c.f0, .int .i64 c.f1, .int .i64 c.f2])
theorem laidOut : laidOutB Try.prog = true := by kernel_rfl
theorem row30 : (30 : TypeId) < Try.prog.types.size := of_decide_eq_true (by kernel_rfl)
theorem wide30 : (match Try.prog.underlying 30 with | some (.array _ _) | some (.struct _) => true | _ => false) = true := by rw [Try.underlying30]
theorem law30 : Keyed Try.prog 30 := Keyed.of_law (deep_law_laid laidOut (m := 2) (by omega) row30 (by kernel_rfl) wide30)
theorem size_types : ∃ m, Try.prog.types.size = m + 1 := ⟨_, (Nat.succ_pred_eq_of_pos (Nat.lt_of_le_of_lt (Nat.zero_le _) row30)).symm⟩
theorem keyType30 : Try.prog.keyType 30 = true := by kernel_rfl
theorem cells30 : Try.prog.cellsOf 30 = 3 := by kernel_rfl
theorem cells3 : Try.prog.cellsOf 3 = 1 := by kernel_rfl
theorem zero3 (w : World) : (zeroValue 3).run Try.prog w = .ok (.int .i64 0) w := by kernel_rfl
theorem key_mk (c : S30) (h : Wc c) : keyOf Try.prog 30 (cv c) = some (kL c) := by
  obtain ⟨h0, h1, h2⟩ := h
  unfold Wf at h0 h1 h2
  obtain ⟨m, hm⟩ := size_types
  have hkt := keyType30
  unfold keyOf
  simp only [Try.underlying30]
  rw [if_pos (by simp [hkt, cv, Value.formed, Try.underlying30, cells30]), hm]
  unfold Program.keyLits
  simp [Try.underlying30, Try.underlying3, cv, Value.cells, cells30, cells3, Program.keyLits, h0, h1, h2, kL]

theorem one_key {d : Nat} {v : Value} {ls : List Lit} (h : Try.prog.keyLits (d + 1) 3 [v] = some ls) : ∃ n, v = .int .i64 n ∧ Wf n ∧ ls = [.int .i64 n] := by
  unfold Program.keyLits at h
  simp only [Try.underlying3] at h
  cases v <;> simp at h
  rename_i q n
  obtain ⟨⟨rfl, h2⟩, rfl⟩ := h
  exact ⟨n, rfl, h2, rfl⟩
theorem key_inv {key : Value} {kl : Lit} (h : keyOf Try.prog 30 key = some kl) : ∃ c, Wc c ∧ key = cv c ∧ kl = kL c := by
  obtain ⟨xs, L, rfl, h1, rfl⟩ := keyOf_top wide30 h
  obtain ⟨m, hm⟩ := size_types
  rw [hm] at h1
  unfold Program.keyLits at h1
  simp only [Try.underlying30, Value.cells] at h1
  split at h1
  · rename_i hl
    obtain ⟨hl, _⟩ := hl
    rw [cells30] at hl
    match xs, hl with
    | ⟨[a, b, c]⟩, _ =>
      simp [cells3] at h1
      cases ha : Try.prog.keyLits (m + 1) 3 [a] with
      | none => simp [ha] at h1
      | some la =>
        cases hb : Try.prog.keyLits (m + 1) 3 [b] with
        | none => simp [ha, hb] at h1
        | some lb =>
          cases hc : Try.prog.keyLits (m + 1) 3 [c] with
          | none => simp [ha, hb, hc] at h1
          | some lc =>
            simp [ha, hb, hc] at h1
            obtain ⟨x, rfl, wx, rfl⟩ := one_key ha
            obtain ⟨y, rfl, wy, rfl⟩ := one_key hb
            obtain ⟨z, rfl, wz, rfl⟩ := one_key hc
            subst h1
            exact ⟨⟨x, y, z⟩, ⟨wx, wy, wz⟩, rfl, rfl⟩
  · cases h1
theorem cv_inj {a b : S30} (h : cv a = cv b) : a = b := by
  cases a; cases b
  simp [cv] at h
  simp [h]
theorem kL_inj {a b : S30} (ha : Wc a) (hb : Wc b) (h : kL a = kL b) : a = b := cv_inj (law30.inj (key_mk a ha) (by rw [h]; exact key_mk b hb))
theorem kL_key {c : S30} (h : Wc c) : WideAt.IsKeyLit (kL c) := law30.key (key_mk c h)
theorem sameKey_kL {a b : S30} (ha : Wc a) (hb : Wc b) : (kL a).sameKey (kL b) = decide (a = b) := by
  by_cases h : a = b
  · subst h
    simp [kL, Lit.sameKey]
  · rw [decide_eq_false h]
    exact sameKey_ne (fun e => h (kL_inj ha hb e))

/-! ### the list -/
abbrev Wt := S30 × Int
def look (L : List Wt) (c : S30) : Option Int := (L.find? (fun p => decide (p.1 = c))).map (·.2)
def putL (L : List Wt) (c : S30) (n : Int) : List Wt := if (look L c).isSome then L.map (fun p => if p.1 = c then (c, n) else p) else L ++ [(c, n)]
def dropL (L : List Wt) (c : S30) : List Wt := L.filter (fun p => !decide (p.1 = c))
def Uniq (L : List Wt) : Prop := (L.map (·.1)).Nodup
def WfL (L : List Wt) : Prop := ∀ p ∈ L, Wc p.1 ∧ Wf p.2
theorem look_some {L : List Wt} {c : S30} {n : Int} (h : look L c = some n) : (c, n) ∈ L := by
  unfold look at h
  cases hf : L.find? (fun p => decide (p.1 = c)) with
  | none => simp [hf] at h
  | some p =>
    have h1 := List.find?_some hf
    have h2 := List.mem_of_find?_eq_some hf
    simp [hf] at h h1
    subst h h1
    exact h2
theorem look_none {L : List Wt} {c : S30} : look L c = none ↔ ∀ p ∈ L, p.1 ≠ c := by
  unfold look
  simp
theorem look_of_mem {L : List Wt} (hu : Uniq L) {c : S30} {n : Int} (h : (c, n) ∈ L) : look L c = some n := by
  induction L with
  | nil => cases h
  | cons p L ih =>
    unfold Uniq at hu
    simp only [List.map_cons, List.nodup_cons] at hu
    unfold look
    rcases List.mem_cons.1 h with rfl | h
    · simp
    · have hne : p.1 ≠ c := fun e => hu.1 (by rw [e]; exact List.mem_map.2 ⟨_, h, rfl⟩)
      rw [List.find?_cons_of_neg (by simpa using hne)]
      exact ih hu.2 h
theorem look_isSome {L : List Wt} {c : S30} : (look L c).isSome = true ↔ c ∈ L.map (·.1) := by
  cases h : look L c with
  | none =>
    have := look_none.1 h
    simp
    intro n hn
    exact this _ hn rfl
  | some n =>
    simp
    exact ⟨n, look_some h⟩
theorem putL_keys (L : List Wt) (c : S30) (n : Int) : (putL L c n).map (·.1) = if (look L c).isSome then L.map (·.1) else L.map (·.1) ++ [c] := by
  unfold putL
  split
  · rw [List.map_map]
    refine List.map_congr_left (fun p _ => ?_)
    simp only [Function.comp]
    split <;> simp_all
  · simp
theorem putL_uniq {L : List Wt} (h : Uniq L) (c : S30) (n : Int) : Uniq (putL L c n) := by
  unfold Uniq
  rw [putL_keys]
  split
  · exact h
  · rename_i hn
    rw [look_isSome] at hn
    rw [List.nodup_append]
    exact ⟨h, by simp, fun a ha b hb e => by simp at hb; subst hb e; exact hn ha⟩
theorem putL_wf {L : List Wt} (h : WfL L) {c : S30} {n : Int} (hc : Wc c) (hn : Wf n) : WfL (putL L c n) := by
  unfold putL
  intro p hp
  split at hp
  · obtain ⟨q, hq, rfl⟩ := List.mem_map.1 hp
    split
    · exact ⟨hc, hn⟩
    · exact h q hq
  · rcases List.mem_append.1 hp with hp | hp
    · exact h p hp
    · simp at hp; subst hp; exact ⟨hc, hn⟩
theorem putL_length (L : List Wt) (c : S30) (n : Int) : (putL L c n).length = if (look L c).isSome then L.length else L.length + 1 := by
  unfold putL
  split <;> simp
theorem look_put_same (L : List Wt) (c : S30) (n : Int) : look (putL L c n) c = some n := by
  unfold putL
  split
  · rename_i h
    induction L with
    | nil => simp [look] at h
    | cons p L ih =>
      by_cases e : p.1 = c
      · simp [look, e]
      · have h2 : (look L c).isSome = true := by unfold look at h ⊢; rw [List.find?_cons_of_neg (by simpa using e)] at h; exact h
        have := ih h2
        unfold look at this ⊢
        rw [List.map_cons, if_neg e, List.find?_cons_of_neg (by simpa using e)]
        exact this
  · rename_i h
    simp only [Bool.not_eq_true, Option.isSome_eq_false_iff, Option.isNone_iff_eq_none] at h
    have h1 := look_none.1 h
    unfold look
    rw [List.find?_append]
    have : L.find? (fun p => decide (p.1 = c)) = none := by simpa using h1
    simp [this]
theorem look_put_other (L : List Wt) {c d : S30} (n : Int) (hne : d ≠ c) : look (putL L c n) d = look L d := by
  unfold putL
  split
  · unfold look
    induction L with
    | nil => rfl
    | cons p L ih =>
      rename_i h
      by_cases e : p.1 = c
      · rw [List.map_cons, if_pos e, List.find?_cons_of_neg (by simpa using Ne.symm hne), List.find?_cons_of_neg (by simpa [e] using Ne.symm hne)]
        by_cases h2 : (look L c).isSome = true
        · exact ih h2
        · have h3 : ∀ q ∈ L, q.1 ≠ c := by
            simp only [Bool.not_eq_true, Option.isSome_eq_false_iff, Option.isNone_iff_eq_none] at h2
            exact look_none.1 h2
          have h4 : L.map (fun p => if p.1 = c then (c, n) else p) = L := by
            rw [List.map_congr_left (g := id) (fun q hq => by rw [if_neg (h3 q hq)]; rfl)]
            simp
          rw [h4]
      · have h2 : (look L c).isSome = true := by unfold look at h ⊢; rw [List.find?_cons_of_neg (by simpa using e)] at h; exact h
        rw [List.map_cons, if_neg e]
        by_cases e2 : p.1 = d
        · rw [List.find?_cons_of_pos (by simpa using e2), List.find?_cons_of_pos (by simpa using e2)]
        · rw [List.find?_cons_of_neg (by simpa using e2), List.find?_cons_of_neg (by simpa using e2)]
          exact ih h2
  · unfold look
    rw [List.find?_append]
    cases hf : L.find? (fun p => decide (p.1 = d)) with
    | some p => rfl
    | none => simp [Ne.symm hne]
theorem look_drop_same (L : List Wt) (c : S30) : look (dropL L c) c = none := by
  rw [look_none]
  intro p hp
  have := (List.mem_filter.1 hp).2
  simpa using this
theorem look_drop_other (L : List Wt) {c d : S30} (hne : d ≠ c) : look (dropL L c) d = look L d := by
  induction L with
  | nil => rfl
  | cons p L ih =>
    unfold look dropL at ih ⊢
    by_cases e : p.1 = c
    · rw [List.filter_cons_of_neg (by simpa using e), List.find?_cons_of_neg (by simpa [e] using Ne.symm hne)]
      exact ih
    · rw [List.filter_cons_of_pos (by simpa using e)]
      by_cases e2 : p.1 = d
      · rw [List.find?_cons_of_pos (by simpa using e2), List.find?_cons_of_pos (by simpa using e2)]
      · rw [List.find?_cons_of_neg (by simpa using e2), List.find?_cons_of_neg (by simpa using e2)]
        exact ih
theorem dropL_uniq {L : List Wt} (h : Uniq L) (c : S30) : Uniq (dropL L c) := h.sublist (List.Sublist.map _ List.filter_sublist)
theorem dropL_wf {L : List Wt} (h : WfL L) (c : S30) : WfL (dropL L c) := fun p hp => h p (List.mem_filter.1 hp).1
theorem dropL_none {L : List Wt} {c : S30} (h : look L c = none) : dropL L c = L := by
  unfold dropL
  rw [List.filter_eq_self]
  intro p hp
  have := look_none.1 h p hp
  simpa using this
theorem dropL_length {L : List Wt} (hu : Uniq L) (c : S30) : (dropL L c).length + (if (look L c).isSome then 1 else 0) = L.length := by
  induction L with
  | nil => simp [dropL, look]
  | cons p L ih =>
    unfold Uniq at hu
    simp only [List.map_cons, List.nodup_cons] at hu
    by_cases e : p.1 = c
    · have h1 : look (p :: L) c = some p.2 := by simp [look, e]
      have h2 : look L c = none := look_none.2 (fun q hq e2 => hu.1 (by rw [e, ← e2]; exact List.mem_map.2 ⟨_, hq, rfl⟩))
      have h3 : dropL (p :: L) c = dropL L c := by unfold dropL; rw [List.filter_cons_of_neg (by simpa using e)]
      rw [h1, h3, dropL_none h2]
      simp
    · have h1 : look (p :: L) c = look L c := by unfold look; rw [List.find?_cons_of_neg (by simpa using e)]
      have h3 : dropL (p :: L) c = p :: dropL L c := by unfold dropL; rw [List.filter_cons_of_pos (by simpa using e)]
      rw [h1, h3]
      have := ih hu.2
      simp only [List.length_cons]
      omega

/-! ### the datum -/
def lv (n : Int) : DataW Unit := .lit (.int .i64 n)
structure MapOf (D : DataW Unit) (L : List Wt) : Prop where
  uniq : Uniq L
  wf : WfL L
  has : ∀ c, Wc c → Maps.has D (kL c) = (look L c).isSome
  at_ : ∀ c n, look L c = some n → ∀ z, D.atKey (kL c) z = lv n
  size : Maps.size D = L.length
theorem MapOf.wc {D : DataW Unit} {L : List Wt} (h : MapOf D L) {c : S30} {n : Int} (hl : look L c = some n) : Wc c ∧ Wf n := h.wf _ (look_some hl)
theorem MapOf.empty : MapOf (.map []) [] := ⟨(by simp [Uniq]), (fun _ h => by cases h), (fun _ _ => rfl), (fun _ _ h => by simp [look] at h), rfl⟩
theorem MapOf.put {D : DataW Unit} {L : List Wt} (h : MapOf D L) (ht : Tidy D) {c : S30} {n : Int} (hc : Wc c) (hn : Wf n) : MapOf (D.put (kL c) (lv n)) (putL L c n) where
  uniq := putL_uniq h.uniq c n
  wf := putL_wf h.wf hc hn
  has d hd := by
    by_cases e : d = c
    · subst e
      rw [has_put_same ht.isMap (kL_key hc), look_put_same]; rfl
    · rw [has_put_other (fun e2 => e (kL_inj hd hc e2)), look_put_other L n e, h.has d hd]
  at_ d m hl z := by
    by_cases e : d = c
    · subst e
      rw [look_put_same] at hl
      cases hl
      exact atKey_put_same ht.isMap (kL_key hc) _ z
    · rw [look_put_other L n e] at hl
      rw [atKey_put_other (fun e2 => e (kL_inj (h.wc hl).1 hc e2))]
      exact h.at_ d m hl z
  size := by rw [size_put ht, putL_length, h.has c hc, h.size]
theorem MapOf.del {D : DataW Unit} {L : List Wt} (h : MapOf D L) (ht : Tidy D) {c : S30} (hc : Wc c) : MapOf (D.del (kL c)) (dropL L c) where
  uniq := dropL_uniq h.uniq c
  wf := dropL_wf h.wf c
  has d hd := by
    by_cases e : d = c
    · subst e
      rw [has_del_same, look_drop_same]; rfl
    · rw [has_del_other (fun e2 => e (kL_inj hd hc e2)), look_drop_other L e, h.has d hd]
  at_ d m hl z := by
    by_cases e : d = c
    · subst e
      rw [look_drop_same] at hl
      cases hl
    · rw [look_drop_other L e] at hl
      rw [atKey_del_other (fun e2 => e (kL_inj (h.wc hl).1 hc e2))]
      exact h.at_ d m hl z
  size := by
    have h1 := size_del ht (k := kL c)
    have h2 := dropL_length h.uniq c
    rw [h.has c hc, h.size] at h1
    omega
end Go.Proofs.Ytgkbcgmcpbbneaa.Q
